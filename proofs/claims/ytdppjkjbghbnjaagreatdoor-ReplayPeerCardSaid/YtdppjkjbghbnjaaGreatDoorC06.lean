import Derived.Test.YtdppjkjbghbnjaaGreatDoorC05
set_option maxHeartbeats 4000000
set_option maxRecDepth 100000
set_option linter.all false
namespace Go.Proofs.YtdppjkjbghbnjaaGreatDoor
open IntKind
open Go.RowKit
def Np(a b:Int):Int:=u64.wrap ((BitVec.ofInt 64 a ^^^ BitVec.ofInt 64 b).toNat:Int)
def orU(a b:Int):Int:=u64.wrap ((BitVec.ofInt 64 a ||| BitVec.ofInt 64 b).toNat:Int)
def wT(a b:Int):Int:=Np (u64.wrap (Np a b*11400714819323198485)) ((u64.wrap (Np a b*11400714819323198485)).fdiv 4294967296)
def ti(b:ByteArray)(i:Nat):Nat -> Int
 | 0=>0
 | k+1=>orU (ti b i k) (u64.wrap (u64.wrap (FN b (8*i+k))*2 ^ min (8*(k:Int)).toNat 64))
def wk(b:ByteArray)(i:Nat):Nat:=min 8 (b.size-8*i)
def wn(b:ByteArray):Nat:=(b.size+7) / 8
def gZ(b:ByteArray):List Int:=(List.range (wn b)).map λ i=>ti b i (wk b i)
theorem zT(b:ByteArray):(gZ b).length=wn b:=by simp[gZ]
theorem qP{b:ByteArray}{i:Nat}(h:8*i<b.size):(gZ b)[i]?=some (ti b i (wk b i)):=by
 have:i<wn b:=by unfold wn;omega
 simp[gZ,this]
def jJ(b:ByteArray):Nat -> Int
 | 0=>0
 | m+1=>wT (jJ b m) ((gZ b).getD m 0)
def oN(b:ByteArray)(n:Int):Int:=wT (wT (jJ b (gZ b).length) (u64.wrap (b.size:Int))) (u64.wrap n)
def Gl(s:Int)(xs:List Int):Nat -> Int
 | 0=>s
 | k+1=>wT (Gl s xs k) (u64.wrap (xs.getD k 0))
def uX(b:ByteArray)(xs:List Int):Int:=wT (Gl (oN b xs.length) xs xs.length) 0
abbrev PI(x:Int):Array Value:=#[.int .u64 x]
theorem Gn{xs:List Int}{i:Nat}{x:Int}(h:xs[i]?=some x):xs.getD i 0=x:=by rw[aaI,h];rfl
theorem lQ(a b:Int)(F:HL):Sp Tryz.prog 220 #[.int .u64 a,.int .u64 b] [] F (λ u H'=>u=.int .u64 (wT a b) /\ H'=[]):=by
 refine aau Tryz.func220 rfl mn (A:=[]) (Ts:=[]) rfl λ w0=>?_;refine ae 23 [] λ _=>?_;exact aaq [] [] [] ⟨rfl,rfl⟩
theorem DF(b:ByteArray)(q lp:Nat)(X F:HL)(J:Nat -> HL -> Prop)(Jx:HL -> Prop)(T0:HL)(hb:b.size <= 1000000)(hq:(q,.lit [.string b] 9 (0,0))∈F)(hY:∀i x H Y,(gZ b)[i]?=some x -> J i H -> YL Tryz.prog lp (PI x) H (Y++(X++F)) (λ b H'=>(b=true /\ J (i+1) H') \/ (b=false /\ Jx H')))(UH:J 0 T0):Sp Tryz.prog 275 #[.func (.yield lp) #[] #[],vP q 0] (ap [] [T0]) (X++F) (λ _ H'=>J (gZ b).length H' \/ Jx H'):=by
 refine aau Tryz.func275 rfl (mc (aay _ hq) mn) (A:=[]) (Ts:=[T0]) rfl λ w0=>?_;refine ae 6 [] λ _=>aao (σ:=Nat × HL) (λ ⟨i,T_⟩=>⟨[(0,.func (.yield lp) #[] #[]),(1,vP q 0),(3,vI (8*(i:Int)))],[],[T_],i <= wn b /\ J i T_,wn b-i⟩) (0,T0) [] [0] (⟨aaL _,UH⟩) ?_;rintro⟨i,T_⟩ ⟨XA,Sy⟩ S_;refine ae 9 [.ro 0] λ _=>aam (8*(i:Int)<((b).size:Int)) 9 (λ h3=>?_) λ h3=>?_
 ·refine ae 17 [] λ _=>aao (σ:=Nat) (λ k=>⟨[(0,.func (.yield lp) #[] #[]),(1,vP q 0),(3,vI (8*(i:Int))),(4,.int .u64 (ti b i k)),(5,vI (k:Int))],[],[T_],k <= 8 /\ 8*i+k <= b.size,8-k⟩) 0 [] [0] (⟨by omega,by omega⟩) ?_;rintro k ⟨Xy,akX⟩ Xu;refine ae 6 [] λ _=>aam ((k:Int)<8) 14 (λ h6=>?_) λ h6=>?_
  ·refine ai 9 [.nw,.ro 0] [bn ((8*(i:Int))+(k:Int))] λ _=>aam ((8*(i:Int))+(k:Int)<((b).size:Int)) 21 (λ h7=>?_) λ h7=>?_
   ·refine ai 26 [.ro 0,.nw,.ix (8*i+k),.nw,.dv,.gen,.nw] [bn ((k:Int)+1),0 <= 8*(k:Int),bn (8*(k:Int)),(8*(i:Int))+(k:Int)=(((8*i+k):Nat):Int) /\ (8*i+k)<(b).size,bn ((8*(i:Int))+(k:Int))] λ _=>?_;refine Xu (k+1) [] [0] ?_
    try dsimp only
    exact⟨⟨by omega,by omega⟩,by omega⟩
   ·obtain rfl:k=wk b i:=by unfold wk;omega
    refine ae 10 [] λ _=>aas 0 (hY i (ti b i (wk b i)) _ _ (qP (by omega)) Sy) ?_;rintro b_ T8 (⟨rfl,Xh⟩|⟨rfl,Xh⟩)
    ·refine ai 12 [.gen,.nw] [bn ((8*(i:Int))+8)] λ _=>aK 3 (congrArg (λ v_=>(vI v_:Value)) (show (8*(i:Int)+8)=8*((i+1:Nat):Int) by omega)) ?_;refine S_ (i+1,T8) [] [0] ?_
     try dsimp only
     exact⟨⟨by unfold wn at *;omega,Xh⟩,by unfold wn at *;omega⟩
    ·refine ae 4 [] λ _=>aaq [] [] [0] (v:=.tuple #[]) (H':=(ap [] [T8])) ?_;rw[aU];exact .inr Xh
  ·obtain rfl:k=wk b i:=by unfold wk;omega
   refine ae 19 [] λ _=>aas 0 (hY i (ti b i (wk b i)) _ _ (qP (by omega)) Sy) ?_;rintro b_ Ui (⟨rfl,aax⟩|⟨rfl,aax⟩)
   ·refine ai 12 [.gen,.nw] [bn ((8*(i:Int))+8)] λ _=>aK 3 (congrArg (λ v_=>(vI v_:Value)) (show (8*(i:Int)+8)=8*((i+1:Nat):Int) by omega)) ?_;refine S_ (i+1,Ui) [] [0] ?_
    try dsimp only
    exact⟨⟨by unfold wn at *;omega,aax⟩,by unfold wn at *;omega⟩
   ·refine ae 4 [] λ _=>aaq [] [] [0] (v:=.tuple #[]) (H':=(ap [] [Ui])) ?_;rw[aU];exact .inr aax
 ·obtain rfl:i=wn b:=by unfold wn at *;omega
  refine ae 5 [] λ _=>aaq [] [] [0] (v:=.tuple #[]) (H':=(ap [] [T_])) ?_;rw[aU];exact .inl (by rw[zT];exact Sy)
theorem Gp(b:ByteArray)(q:Nat)(F:HL)(hb:b.size <= 1000000)(hq:(q,.lit [.string b] 9 (0,0))∈F):It Tryz.prog 275 #[vP q 0] F PI (gZ b):=by
 intro X l J Jx H0 hY h0;have key:=DF b q l X F J Jx H0 hb hq hY h0;rw[aU] at key;exact key
theorem DG(b:ByteArray)(F:HL):Sp Tryz.prog 253 #[.string b] (ap [] []) F (λ u H'=>∃n:Nat,H'=ap [((n+0),.lit [.string b] 9 (0,0))] [] /\ u=.func (.func 275) #[] #[vP (n+0) 0]):=by
 refine aau Tryz.func253 rfl mn (A:=[]) (Ts:=[]) rfl λ w0=>?_;refine ae 12 [] λ n1=>aaq [] [0] [] (v:=.func (.func 275) #[] #[vP (n1+0) 0]) (H':=(ap [((n1+0),.lit [.string b] 9 (0,0))] [])) ?_;exact⟨_,rfl,rfl⟩
theorem qQ(b:ByteArray)(n:Int)(F:HL)(hb:b.size <= 1000000):Sp Tryz.prog 219 #[.string b,vI n] [] F (λ u H'=>u=.int .u64 (oN b n) /\ H'=[]):=by
 refine Sp.runM Tryz.func219 rfl mn (A:=[]) (Ts:=[]) rfl λ w0=>?_;refine ae 14 [] λ n1=>aaj (Hp:=[]) (Tp:=[]) [] [] (DG b _) ?_;rintro _ m2 rfl;refine ae 3 [] λ _=>RN.range (σ:=Nat) (τ:=Nat × Int) (encs:=λ (x_:Int)=>#[.int .u64 x_]) (xs:=(gZ b)) (enters_of Tryz.func275 (by kernel_rfl) rfl) (λ m_=>([((n1+0),.lit [.int .u64 (jJ b m_)] 129 (0,0))],[])) (λ i_ m_=>m_=i_) (λ c_ m_=>False) (λ ⟨m_,y_⟩=>⟨[(0,.string b),(1,vI n),(5,vP (n1+0) 0),(6,.int .u64 y_)],[((n1+0),.lit [.int .u64 (jJ b m_)] 129 (0,0))],[],True,0⟩) (λ i_ x_ ⟨m_,y_⟩=>m_=i_ /\ y_=x_) 0 rfl [1] [] (Gp b (m2+0) _ hb (aw 0)) ?_ ?_ ?_ ?_
 ·rintro l_ i_ x_ m_ Y3 w4 hx5 rfl XI;refine ae 3 [] λ _=>?_;refine XI (m_,x_) [0] [] ?_
  try dsimp only
  exact⟨rfl,rfl⟩
 ·rintro l_ i_ x_ ⟨m_,y_⟩ Y7 w8 hx9 ⟨rfl,ey_⟩;refine ae 4 [.own 0] λ _=>aai (lQ (jJ b m_) y_ _)<|ae 3 [.own 0] λ _=>?_;have e_:jJ b (m_+1)=wT (jJ b m_) y_:=by rw[jJ,ey_,Gn hx9]
  refine aah 0 (congrArg (λ v_=>(.lit [.int .u64 v_] 129 (0,0):Blk)) e_.symm)<|RN.rn (m_+1) [0] [] ?_
  try dsimp only
  first|done|rfl
 ·rintro d10 m_  rfl;refine ae 8 [.own 1] λ _=>aai (lQ (jJ b (gZ b).length) (u64.wrap ((b).size:Int)) _)<|ae 2 [] λ _=>aai (lQ (wT (jJ b (gZ b).length) (u64.wrap ((b).size:Int))) (u64.wrap n) _)<|ae 3 [] λ _=>?_;exact RN.retM [d10] [0] [] [] [] ⟨rfl,rfl⟩
 ·exact λ _ _ _ h=>h.elim
theorem qR(b:ByteArray)(xs:List Int)(q c:Nat)(F:HL)(hb:b.size <= 1000000)(hl:xs.length <= c)(SC:xs.length <= 1000000)(hq:(q,.rows 1 c (aE xs) 3 (0,0))∈F):Sp Tryz.prog 177 #[.string b,vS q 0 xs.length c] [] F (λ u H'=>u=.int .u64 (uX b xs) /\ H'=[]):=by
 refine aau Tryz.func177 rfl (mc hq mn) (A:=[]) (Ts:=[]) rfl λ w0=>?_;refine ae 10 [] λ _=>aai (qQ b (xs.length:Int) _ (by assumption))<|ae 12 [] λ _=>aao (σ:=Nat) (λ k=>⟨[(5,.int .u64 (Gl (oN b xs.length) xs k)),(12,vS q 0 xs.length c),(13,vI (xs.length:Int)),(14,vI (k:Int))],[],[],k <= xs.length,xs.length-k⟩) 0 [] [] (aaL _) ?_;rintro k hI1 S_;refine ae 6 [] λ _=>aam ((k:Int)<(xs.length:Int)) 15 (λ h3=>?_) λ h3=>?_
 ·refine ai 16 [.ix k,.rorow 0 k 0] [(0+k*1)=k*1+0 /\ k<c,(k:Int)=((k:Nat):Int) /\ k<xs.length] λ _=>aai (lQ (Gl (oN b xs.length) xs k) (u64.wrap (xs.getD k 0)) _)<|ai 8 [.nw] [bn ((k:Int)+1)] λ _=>?_;refine S_ (k+1) [] [] ?_
  try dsimp only
  exact⟨by omega,by omega⟩
 ·obtain rfl:k=xs.length:=by omega
  refine ae 9 [] λ _=>aai (lQ (Gl (oN b xs.length) xs xs.length) 0 _)<|ae 3 [] λ _=>?_;exact aaq [] [] [] ⟨rfl,rfl⟩
structure VR where (M:MemS) (v:Int) (e:Eff) (em:Bool)
def nT:List (Int × Int × Int):=[(0,0,0),(0,1,0),(0,1,16),(1,0,16),(1,1,8),(2,0,8),(0,1,0),(0,1,0),(0,1,0),(2,1,0),(2,1,0),(2,1,0),(2,1,0),(1,1,0),(2,1,0),(2,1,0),(2,1,0),(1,1,0),(0,0,0),(1,0,0),(2,0,0),(0,0,0)]
abbrev eP(op:Int):Int:=(nT.getD op.toNat (0,0,0)).1
abbrev eQ(op:Int):Int:=(nT.getD op.toNat (0,0,0)).2.1
abbrev eN(op:Int):Int:=(nT.getD op.toNat (0,0,0)).2.2
def mU:Nat -> Nat -> Value:=λ i k=>match k with|0=>vI (nT.getD i (0,0,0)).1|1=>vI (nT.getD i (0,0,0)).2.1|_=>vI (nT.getD i (0,0,0)).2.2
def ls(n:Int):Int:=aF n (-2147483647) 2147483647
def gO(b:Bool):Int:=if b=true then 1 else 0
def fh(op n sp:Int):Bool:=if op<1 then false else if op>21 then false else if sp>16 then false else if sp<eP op then false else if bd (bd (sp-eP op)+eQ op)>16 then false else if eN op=0 then true else if n >= 0 then decide (n<eN op) else false
def nU(f v:Int):Int:=if f=0 then aF v (-1048576) 1048576 else if f=1 then aF v (-1048576) 1048576 else if f=2 then aF v (-16384) 16384 else if f=3 then aF v (-16384) 16384 else v
abbrev Rm:ByteArray:=⟨#[101,102,102,101,99,116]⟩
def cG(k v:Int)(M:MemS):VR:=if M.get 11 >= 40 then ⟨M,0,bB,false⟩ else ⟨(M.set 12 (bd ((uX Rm [M.get 12,M.get 0,k,v]).fdiv 2))).set 11 (bd (M.get 11+1)),0,⟨M.get 0,M.get 11,k,v⟩,true⟩
def aC(S:Setup)(op n a b:Int)(M:MemS):VR :=
 if op=1 then ⟨M,n,bB,false⟩ else if op=2 then ⟨M,M.get (bd (32+n)),bB,false⟩ else if op=6 then ⟨M,M.get 9,bB,false⟩ else if op=7 then ⟨M,M.get 10,bB,false⟩ else if op=8 then ⟨M,M.get 0,bB,false⟩
 else if op=9 then ⟨M,ls (bd (a+b)),bB,false⟩ else if op=10 then ⟨M,ls (bd (a-b)),bB,false⟩ else if op=11 then ⟨M,ls (bd (a*b)),bB,false⟩ else if op=12 then ⟨M,if b=0 then 0 else ls (bd (a.tdiv b)),bB,false⟩
 else if op=14 then ⟨M,gO (decide (a<b)),bB,false⟩ else if op=15 then ⟨M,gO (decide (a <= b)),bB,false⟩ else if op=16 then ⟨M,gO (decide (a=b)),bB,false⟩
 else if op=13 then ⟨M,ls (bd (0-a)),bB,false⟩ else if op=17 then ⟨M,gO (decide (a=0)),bB,false⟩
 else if op=3 then ⟨M.set (bd (32+n)) a,0,bB,false⟩ else if op=4 then ⟨M,if af S a >= 0 then M.get (bd (af S a+n)) else 0,bB,false⟩ else if op=5 then ⟨if af S a >= 0 then M.set (bd (af S a+n)) (nU n b) else M,0,bB,false⟩
 else if op=18 then ⟨M.set 6 n,0,bB,false⟩ else if op=19 then ⟨if a=0 then M.set 6 n else M,0,bB,false⟩ else if op=20 then ⟨(cG a b M).M,0,(cG a b M).e,(cG a b M).em⟩ else ⟨M,0,bB,false⟩
def eo(op sp:Int)(M:MemS):Int:=if eP op=2 then M.get (bd (bd (16+sp)-eP op)) else if eP op=1 then M.get (bd (bd (16+sp)-eP op)) else 0
def ep(op sp:Int)(M:MemS):Int:=if eP op=2 then M.get (bd (bd (bd (16+sp)-eP op)+1)) else 0
def dJ(op sp pc fuel:Int)(M:MemS):MemS:=if eP op=eQ op then (M.set 8 (bd (fuel-1))).set 6 (bd (pc+1)) else ((M.set 8 (bd (fuel-1))).set 6 (bd (pc+1))).set 7 (bd (bd (sp-eP op)+eQ op))
def bJ(S:Setup)(op n sp pc fuel:Int)(M:MemS):VR:=aC S op n (eo op sp M) (ep op sp M) (dJ op sp pc fuel M)
def b7(op sp:Int)(r:VR):VR:=if eQ op>0 then ⟨r.M.set (bd (bd (16+sp)-eP op)) r.v,r.v,r.e,r.em⟩ else r
abbrev br(code:List Ins)(M:MemS):Ins:=code.getD (M.get 6).toNat dIns
def dZ(code:List Ins)(n:Nat)(M:MemS):Prop:=¬ M.get 8<1 /\ ¬ M.get 6<0 /\ ¬ M.get 6 >= (n:Int) /\ fh (br code M).op (br code M).n (M.get 7)=true
instance (code:List Ins) (n:Nat) (M:MemS):Decidable (dZ code n M):=inferInstanceAs (Decidable (_ /\ _))
def ak(S:Setup)(code:List Ins)(n:Nat)(M:MemS):VR:=if dZ code n M then b7 (br code M).op (M.get 7) (bJ S (br code M).op (br code M).n (M.get 7) (M.get 6) (M.get 8) M) else ⟨M,0,bB,false⟩
def bz(code:List Ins)(n:Nat)(M:MemS):Bool:=if dZ code n M then decide ((br code M).op=21) else true
def aN(e fuel self other:Int)(M:MemS):MemS:=if e<0 then M else ((((M.set 6 e).set 7 0).set 8 fuel).set 9 self).set 10 other
def k8:Enc Ins:=⟨2,λ p k=>match k with|0=>vI p.op|1=>vI p.n|_=>default,dIns⟩
noncomputable def MB:TypeInfo:=match Tryz.prog.info? 231 with | some i=>i | none=>⟨.bool,"",0,0,false,0,0,none,false,#[]⟩
noncomputable def MC:Value:=match MB.zero with|some z=>z|none=>.bool false
theorem Gq:EncOk k8 Tryz.prog 231 MB MC where
 info:=by kernel_rfl
 zero:=by kernel_rfl
 size:=by kernel_rfl
 zsize:=by kernel_rfl
 zcell:=λ k hk=>by
  have h:∀k<2,MC.cells[k]?=some (k8.cell k8.dflt k):=by intro k hk;(iterate 2 (rcases k with _|k;· kernel_rfl));omega
  exact h k hk
 one:=λ x k=>by unfold k8;dsimp only;split <;> rfl
 bytes:=aaJ (by kernel_rfl)
abbrev PJ(l:List Ins):Nat -> Nat -> Value:=aL k8 l
inductive CodeIn(F:HL)(code:List Ins):Option Addr -> Nat -> Prop
 | nil (A:Option Addr):CodeIn F code A 0
 | mk (b R n:Nat) (h:(b,.rows 2 R (PJ code) 231 (0,0))∈F) (hn:n <= R) (hn2:n <= 1000000):CodeIn F code (some ⟨b,0,none⟩) n
theorem CodeIn.up{F X:HL}{code:List Ins}{A:Option Addr}{n:Nat}(h:CodeIn F code A n):CodeIn (X++F) code A n:=by
 cases h with
 | nil=>exact .nil _
 | mk b R n h h1 h2=>exact .mk b R n (aay _ h) h1 h2
abbrev cM(F:HL):Prop:=(1,.rows 3 22 mU 332 (0,0))∈F
theorem nV(n:Int)  (F:HL):Sp Tryz.prog 287 #[vI n] [] F (λ u H'=>u=vI (ls n) /\ H'=[]):=by
 refine aau Tryz.func287 rfl mn (A:=[]) (Ts:=[]) rfl λ w0=>?_;refine ae 8 [] λ _=>aai (cD n (-2147483647) 2147483647  _)<|ae 3 [] λ _=>?_;exact aaq [] [] [] ⟨rfl,rfl⟩
theorem lR(b:Bool)(F:HL):Sp Tryz.prog 292 #[.bool b] [] F (λ u H'=>u=vI (gO b) /\ H'=[]):=by
 refine aau Tryz.func292 rfl mn (A:=[]) (Ts:=[]) rfl λ w0=>?_;refine ae 11 [] λ _=>il (b) 3 (λ h1=>?_) λ h1=>?_
 ·refine ae 6 [] λ _=>aaq [] [] [] (v:=vI 1) (H':=[]) ?_;refine⟨?_,rfl⟩
  first|(simp only[gO,if_pos h1];try rfl;done)|rfl
 ·refine ae 8 [] λ _=>aaq [] [] [] (v:=vI 0) (H':=[]) ?_;refine⟨?_,rfl⟩
  first|(simp only[gO,if_neg h1];try rfl;done)|rfl
theorem DH(f:Int)(v:Int)  (F:HL):Sp Tryz.prog 300 #[vI f,vI v] [] F (λ u H'=>u=vI (nU f v) /\ H'=[]):=by
 refine aau Tryz.func300 rfl mn (A:=[]) (Ts:=[]) rfl λ w0=>?_;refine ae 19 [] λ _=>aam (f=0) 6 (λ h1=>?_) λ h1=>?_
 ·refine ae 7 [] λ _=>aai (cD v (-1048576) 1048576  _)<|ae 3 [] λ _=>aaq [] [] [] (v:=vI (aF v (-1048576) 1048576)) (H':=[]) ?_;refine⟨?_,rfl⟩
  first|(simp only[nU,if_pos h1];try rfl;done)|rfl
 ·refine ae 6 [] λ _=>aam (f=1) 6 (λ h2=>?_) λ h2=>?_
  ·refine ae 4 [] λ _=>aai (cD v (-1048576) 1048576  _)<|ae 3 [] λ _=>aaq [] [] [] (v:=vI (aF v (-1048576) 1048576)) (H':=[]) ?_;refine⟨?_,rfl⟩
   first|(simp only[nU,if_neg h1,if_pos h2];try rfl;done)|rfl
  ·refine ae 8 [] λ _=>aam (f=2) 11 (λ h3=>?_) λ h3=>?_
   ·refine ae 7 [] λ _=>aai (cD v (-16384) 16384  _)<|ae 3 [] λ _=>aaq [] [] [] (v:=vI (aF v (-16384) 16384)) (H':=[]) ?_;refine⟨?_,rfl⟩
    first|(simp only[nU,if_neg h1,if_neg h2,if_pos h3];try rfl;done)|rfl
   ·refine ae 6 [] λ _=>aam (f=3) 11 (λ h4=>?_) λ h4=>?_
    ·refine ae 4 [] λ _=>aai (cD v (-16384) 16384  _)<|ae 3 [] λ _=>aaq [] [] [] (v:=vI (aF v (-16384) 16384)) (H':=[]) ?_;refine⟨?_,rfl⟩
     first|(simp only[nU,if_neg h1,if_neg h2,if_neg h3,if_pos h4];try rfl;done)|rfl
    ·refine ae 10 [] λ _=>aaq [] [] [] (v:=vI v) (H':=[]) ?_;refine⟨?_,rfl⟩
     first|(simp only[nU,if_neg h1,if_neg h2,if_neg h3,if_neg h4];try rfl;done)|rfl
theorem KL(op n sp:Int)(F:HL)(hE:cM F):Sp Tryz.prog 231 #[.agg #[vI op,vI n],vI sp] [] F (λ u H'=>u=.bool (fh op n sp) /\ H'=[]):=by
 refine aau Tryz.func231 rfl (mc hE mn) (A:=[]) (Ts:=[]) rfl λ w0=>?_;refine ae 13 [.own 0] λ n1=>aam (op<1) 9 (λ h2=>?_) λ h2=>?_
 ·refine ae 16 [] λ _=>aaq [] [] [] (v:=.bool false) (H':=[]) ?_;refine⟨?_,rfl⟩
  first|(simp only[fh,if_pos h2];try rfl;done)|rfl
 ·refine ae 5 [.own 0] λ _=>aam (op>21) 14 (λ h3=>?_) λ h3=>?_
  ·refine ae 11 [] λ _=>aaq [] [] [] (v:=.bool false) (H':=[]) ?_;refine⟨?_,rfl⟩
   first|(simp only[fh,if_neg h2,if_pos h3];try rfl;done)|rfl
  ·refine ae 5 [] λ _=>aam (sp>16) 17 (λ h4=>?_) λ h4=>?_
   ·refine ae 6 [] λ _=>aaq [] [] [] (v:=.bool false) (H':=[]) ?_;refine⟨?_,rfl⟩
    first|(simp only[fh,if_neg h2,if_neg h3,if_pos h4];try rfl;done)|rfl
   ·refine ai 21 [.own 0,.ix ((op).toNat),.rorow 0 ((op).toNat) 0,.rorow 0 ((op).toNat) 1,.rorow 0 ((op).toNat) 2,.own 0,.own 0,.own 0,.own 0] [((0+((op).toNat)*3)+2)=((op).toNat)*3+2 /\ ((op).toNat)<22,((0+((op).toNat)*3)+1)=((op).toNat)*3+1 /\ ((op).toNat)<22,(0+((op).toNat)*3)=((op).toNat)*3+0 /\ ((op).toNat)<22,op=(((op).toNat:Nat):Int) /\ (op).toNat<22] λ n5=>aam (sp<eP op) 26 (λ h6=>?_) λ h6=>?_
    ·refine ae 17 [] λ _=>aaq [] [] [] (v:=.bool false) (H':=[]) ?_;refine⟨?_,rfl⟩
     first|(simp only[fh,if_neg h2,if_neg h3,if_neg h4,if_pos h6];try rfl;done)|rfl
    ·refine ae 11 (aab 2) λ _=>aam (i64.wrap ((i64.wrap (sp-(eP op)))+(eQ op))>16) 35 (λ h7=>?_) λ h7=>?_
     ·refine ae 6 [] λ _=>aaq [] [] [] (v:=.bool false) (H':=[]) ?_;refine⟨?_,rfl⟩
      first|(simp only[fh,if_neg h2,if_neg h3,if_neg h4,if_neg h6,if_pos h7];try rfl;done)|rfl
     ·refine ae 9 [.own 0] λ _=>aam (eN op=0) 39 (λ h8=>?_) λ h8=>?_
      ·refine ae 14 [] λ _=>aaq [] [] [] (v:=.bool true) (H':=[]) ?_;refine⟨?_,rfl⟩
       first|(simp only[fh,if_neg h2,if_neg h3,if_neg h4,if_neg h6,if_neg h7,if_pos h8];try rfl;done)|rfl
      ·refine ae 4 [.own 1] λ _=>aam (n >= 0) 43 (λ h9=>?_) λ h9=>?_
       ·refine ae 10 [.own 1,.own 0] λ _=>aaq [] [] [] (v:=.bool (decide (n<eN op))) (H':=[]) ?_;refine⟨?_,rfl⟩
        first|(simp only[fh,if_neg h2,if_neg h3,if_neg h4,if_neg h6,if_neg h7,if_neg h8,if_pos h9];try rfl;done)|rfl
       ·refine ae 10 [] λ _=>aaq [] [] [] (v:=.bool false) (H':=[]) ?_;refine⟨?_,rfl⟩
        first|(simp only[fh,if_neg h2,if_neg h3,if_neg h4,if_neg h6,if_neg h7,if_neg h8,if_neg h9];try rfl;done)|rfl
theorem ld1(mb:Nat)(M:MemS)(k:Nat)(T:HL)(n:Int)(F:HL)(hM:MemH mb M k T)(hs:∀x∈T,x∈F):Sp Tryz.prog 281 #[.iface 113 (vP mb 0),vI n] [] F (λ u H'=>u=vI (n) /\ H'=[]):=by
 refine aau Tryz.func281 rfl mn (A:=[]) (Ts:=[]) rfl λ w0=>?_;refine ae 11 [] λ _=>?_;exact aaq [] [] [] ⟨rfl,rfl⟩
theorem ld2(mb:Nat)(M:MemS)(k:Nat)(T:HL)(n:Int)(F:HL)(hM:MemH mb M k T)(hs:∀x∈T,x∈F):Sp Tryz.prog 282 #[.iface 113 (vP mb 0),vI n] [] F (λ u H'=>u=vI (M.get (bd (32+n))) /\ H'=[]):=by
 refine aau Tryz.func282 rfl mn (A:=[]) (Ts:=[]) rfl λ w0=>?_;refine ae 10 [] λ _=>aai (av (i64.wrap (32+n)) hM λ x hx=>au (hs x hx))<|ae 3 [] λ _=>?_;exact aaq [] [] [] ⟨rfl,rfl⟩
theorem ld3(mb:Nat)(M:MemS)(k:Nat)(T:HL)(n:Int)(F:HL)(hM:MemH mb M k T)(hs:∀x∈T,x∈F):Sp Tryz.prog 283 #[.iface 113 (vP mb 0),vI n] [] F (λ u H'=>u=vI (M.get 9) /\ H'=[]):=by
 refine aau Tryz.func283 rfl mn (A:=[]) (Ts:=[]) rfl λ w0=>?_;refine ae 8 [] λ _=>aai (av 9 hM λ x hx=>au (hs x hx))<|ae 3 [] λ _=>?_;exact aaq [] [] [] ⟨rfl,rfl⟩
theorem ld4(mb:Nat)(M:MemS)(k:Nat)(T:HL)(n:Int)(F:HL)(hM:MemH mb M k T)(hs:∀x∈T,x∈F):Sp Tryz.prog 284 #[.iface 113 (vP mb 0),vI n] [] F (λ u H'=>u=vI (M.get 10) /\ H'=[]):=by
 refine aau Tryz.func284 rfl mn (A:=[]) (Ts:=[]) rfl λ w0=>?_;refine ae 8 [] λ _=>aai (av 10 hM λ x hx=>au (hs x hx))<|ae 3 [] λ _=>?_;exact aaq [] [] [] ⟨rfl,rfl⟩
theorem ld5(mb:Nat)(M:MemS)(k:Nat)(T:HL)(n:Int)(F:HL)(hM:MemH mb M k T)(hs:∀x∈T,x∈F):Sp Tryz.prog 285 #[.iface 113 (vP mb 0),vI n] [] F (λ u H'=>u=vI (M.get 0) /\ H'=[]):=by
 refine aau Tryz.func285 rfl mn (A:=[]) (Ts:=[]) rfl λ w0=>?_;refine ae 8 [] λ _=>aai (av 0 hM λ x hx=>au (hs x hx))<|ae 3 [] λ _=>?_;exact aaq [] [] [] ⟨rfl,rfl⟩
theorem Rn(a b:Int)(F:HL):Sp Tryz.prog 286 #[vI a,vI b] [] F (λ u H'=>u=vI (ls (bd (a+b))) /\ H'=[]):=by
 refine aau Tryz.func286 rfl mn (A:=[]) (Ts:=[]) rfl λ w0=>?_;refine ae 10 [] λ _=>aai (nV (i64.wrap (a+b))  _)<|ae 3 [] λ _=>?_;exact aaq [] [] [] ⟨rfl,rfl⟩
theorem Rp(a b:Int)(F:HL):Sp Tryz.prog 288 #[vI a,vI b] [] F (λ u H'=>u=vI (ls (bd (a-b))) /\ H'=[]):=by
 refine aau Tryz.func288 rfl mn (A:=[]) (Ts:=[]) rfl λ w0=>?_;refine ae 10 [] λ _=>aai (nV (i64.wrap (a-b))  _)<|ae 3 [] λ _=>?_;exact aaq [] [] [] ⟨rfl,rfl⟩
theorem Rq(a b:Int)(F:HL):Sp Tryz.prog 289 #[vI a,vI b] [] F (λ u H'=>u=vI (ls (bd (a*b))) /\ H'=[]):=by
 refine aau Tryz.func289 rfl mn (A:=[]) (Ts:=[]) rfl λ w0=>?_;refine ae 10 [] λ _=>aai (nV (i64.wrap (a*b))  _)<|ae 3 [] λ _=>?_;exact aaq [] [] [] ⟨rfl,rfl⟩
theorem Rt(a b:Int)(F:HL):Sp Tryz.prog 290 #[vI a,vI b] [] F (λ u H'=>u=vI (if b=0 then 0 else ls (bd (a.tdiv b))) /\ H'=[]):=by
 refine aau Tryz.func290 rfl mn (A:=[]) (Ts:=[]) rfl λ w0=>?_;refine ae 12 [] λ _=>aam (b=0) 6 (λ h1=>?_) λ h1=>?_
 ·refine ae 6 [] λ _=>aaq [] [] [] (v:=vI 0) (H':=[]) ?_;exact⟨by simp[*],rfl⟩
 ·refine ai 8 [.dv] [b≠0] λ _=>aai (nV (i64.wrap (a.tdiv b))  _)<|ae 3 [] λ _=>aaq [] [] [] (v:=vI (ls (i64.wrap (a.tdiv b)))) (H':=[]) ?_;exact⟨by simp[*],rfl⟩
theorem Ru(a b:Int)(F:HL):Sp Tryz.prog 291 #[vI a,vI b] [] F (λ u H'=>u=vI (gO (decide (a<b))) /\ H'=[]):=by
 refine aau Tryz.func291 rfl mn (A:=[]) (Ts:=[]) rfl λ w0=>?_;refine ae 10 [] λ _=>aai (lR (decide (a<b)) _)<|ae 3 [] λ _=>?_;exact aaq [] [] [] ⟨rfl,rfl⟩
theorem Rx(a b:Int)(F:HL):Sp Tryz.prog 293 #[vI a,vI b] [] F (λ u H'=>u=vI (gO (decide (a <= b))) /\ H'=[]):=by
 refine aau Tryz.func293 rfl mn (A:=[]) (Ts:=[]) rfl λ w0=>?_;refine ae 10 [] λ _=>aai (lR (decide (a <= b)) _)<|ae 3 [] λ _=>?_;exact aaq [] [] [] ⟨rfl,rfl⟩
theorem Ry(a b:Int)(F:HL):Sp Tryz.prog 294 #[vI a,vI b] [] F (λ u H'=>u=vI (gO (decide (a=b))) /\ H'=[]):=by
 refine aau Tryz.func294 rfl mn (A:=[]) (Ts:=[]) rfl λ w0=>?_;refine ae 10 [] λ _=>aai (lR (decide (a=b)) _)<|ae 3 [] λ _=>?_;exact aaq [] [] [] ⟨rfl,rfl⟩
theorem un1(a:Int)(F:HL):Sp Tryz.prog 295 #[vI a] [] F (λ u H'=>u=vI (ls (bd (0-a))) /\ H'=[]):=by
 refine aau Tryz.func295 rfl mn (A:=[]) (Ts:=[]) rfl λ w0=>?_;refine ae 9 [] λ _=>aai (nV (i64.wrap (0-a))  _)<|ae 3 [] λ _=>?_;exact aaq [] [] [] ⟨rfl,rfl⟩
theorem un2(a:Int)(F:HL):Sp Tryz.prog 296 #[vI a] [] F (λ u H'=>u=vI (gO (decide (a=0))) /\ H'=[]):=by
 refine aau Tryz.func296 rfl mn (A:=[]) (Ts:=[]) rfl λ w0=>?_;refine ae 9 [] λ _=>aai (lR (decide (a=0)) _)<|ae 3 [] λ _=>?_;exact aaq [] [] [] ⟨rfl,rfl⟩
theorem PK(F:HL):Sp Tryz.prog 262 #[vI 1] [] F (λ u H'=>u=.func (.func 281) #[] #[] /\ H'=[]):=by
 refine aau Tryz.func262 rfl mn (A:=[]) (Ts:=[]) rfl λ w0=>?_;refine ae 19 (ow 0 11) λ n1=>?_;exact aaq [] [] [] ⟨rfl,rfl⟩
theorem PL(F:HL):Sp Tryz.prog 262 #[vI 2] [] F (λ u H'=>u=.func (.func 282) #[] #[] /\ H'=[]):=by
 refine aau Tryz.func262 rfl mn (A:=[]) (Ts:=[]) rfl λ w0=>?_;refine ae 19 (ow 0 11) λ n1=>?_;exact aaq [] [] [] ⟨rfl,rfl⟩
theorem PM(F:HL):Sp Tryz.prog 262 #[vI 6] [] F (λ u H'=>u=.func (.func 283) #[] #[] /\ H'=[]):=by
 refine aau Tryz.func262 rfl mn (A:=[]) (Ts:=[]) rfl λ w0=>?_;refine ae 19 (ow 0 11) λ n1=>?_;exact aaq [] [] [] ⟨rfl,rfl⟩
theorem PN(F:HL):Sp Tryz.prog 262 #[vI 7] [] F (λ u H'=>u=.func (.func 284) #[] #[] /\ H'=[]):=by
 refine aau Tryz.func262 rfl mn (A:=[]) (Ts:=[]) rfl λ w0=>?_;refine ae 19 (ow 0 11) λ n1=>?_;exact aaq [] [] [] ⟨rfl,rfl⟩
theorem PO(F:HL):Sp Tryz.prog 262 #[vI 8] [] F (λ u H'=>u=.func (.func 285) #[] #[] /\ H'=[]):=by
 refine aau Tryz.func262 rfl mn (A:=[]) (Ts:=[]) rfl λ w0=>?_;refine ae 19 (ow 0 11) λ n1=>?_;exact aaq [] [] [] ⟨rfl,rfl⟩
theorem PP(F:HL):Sp Tryz.prog 263 #[vI 9] [] F (λ u H'=>u=.func (.func 286) #[] #[] /\ H'=[]):=by
 refine aau Tryz.func263 rfl mn (A:=[]) (Ts:=[]) rfl λ w0=>?_;refine ae 21 (ow 0 15) λ n1=>?_;exact aaq [] [] [] ⟨rfl,rfl⟩
theorem Nq(F:HL):Sp Tryz.prog 263 #[vI 10] [] F (λ u H'=>u=.func (.func 288) #[] #[] /\ H'=[]):=by
 refine aau Tryz.func263 rfl mn (A:=[]) (Ts:=[]) rfl λ w0=>?_;refine ae 21 (ow 0 15) λ n1=>?_;exact aaq [] [] [] ⟨rfl,rfl⟩
theorem Nr(F:HL):Sp Tryz.prog 263 #[vI 11] [] F (λ u H'=>u=.func (.func 289) #[] #[] /\ H'=[]):=by
 refine aau Tryz.func263 rfl mn (A:=[]) (Ts:=[]) rfl λ w0=>?_;refine ae 21 (ow 0 15) λ n1=>?_;exact aaq [] [] [] ⟨rfl,rfl⟩
theorem Ns(F:HL):Sp Tryz.prog 263 #[vI 12] [] F (λ u H'=>u=.func (.func 290) #[] #[] /\ H'=[]):=by
 refine aau Tryz.func263 rfl mn (A:=[]) (Ts:=[]) rfl λ w0=>?_;refine ae 21 (ow 0 15) λ n1=>?_;exact aaq [] [] [] ⟨rfl,rfl⟩
theorem Nt(F:HL):Sp Tryz.prog 263 #[vI 14] [] F (λ u H'=>u=.func (.func 291) #[] #[] /\ H'=[]):=by
 refine aau Tryz.func263 rfl mn (A:=[]) (Ts:=[]) rfl λ w0=>?_;refine ae 21 (ow 0 15) λ n1=>?_;exact aaq [] [] [] ⟨rfl,rfl⟩
theorem Nw(F:HL):Sp Tryz.prog 263 #[vI 15] [] F (λ u H'=>u=.func (.func 293) #[] #[] /\ H'=[]):=by
 refine aau Tryz.func263 rfl mn (A:=[]) (Ts:=[]) rfl λ w0=>?_;refine ae 21 (ow 0 15) λ n1=>?_;exact aaq [] [] [] ⟨rfl,rfl⟩
theorem Ny(F:HL):Sp Tryz.prog 263 #[vI 16] [] F (λ u H'=>u=.func (.func 294) #[] #[] /\ H'=[]):=by
 refine aau Tryz.func263 rfl mn (A:=[]) (Ts:=[]) rfl λ w0=>?_;refine ae 21 (ow 0 15) λ n1=>?_;exact aaq [] [] [] ⟨rfl,rfl⟩
theorem Nz(F:HL):Sp Tryz.prog 264 #[vI 13] [] F (λ u H'=>u=.func (.func 295) #[] #[] /\ H'=[]):=by
 refine aau Tryz.func264 rfl mn (A:=[]) (Ts:=[]) rfl λ w0=>?_;refine ae 16 (ow 0 5) λ n1=>?_;exact aaq [] [] [] ⟨rfl,rfl⟩
theorem NA(F:HL):Sp Tryz.prog 264 #[vI 17] [] F (λ u H'=>u=.func (.func 296) #[] #[] /\ H'=[]):=by
 refine aau Tryz.func264 rfl mn (A:=[]) (Ts:=[]) rfl λ w0=>?_;refine ae 16 (ow 0 5) λ n1=>?_;exact aaq [] [] [] ⟨rfl,rfl⟩
theorem PQ(F:HL):Sp Tryz.prog 265 #[vI 3] [] F (λ u H'=>u=.func (.func 297) #[] #[] /\ H'=[]):=by
 refine aau Tryz.func265 rfl mn (A:=[]) (Ts:=[]) rfl λ w0=>?_;refine ae 21 (ow 0 15) λ n1=>?_;exact aaq [] [] [] ⟨rfl,rfl⟩
theorem PT(F:HL):Sp Tryz.prog 265 #[vI 4] [] F (λ u H'=>u=.func (.func 298) #[] #[] /\ H'=[]):=by
 refine aau Tryz.func265 rfl mn (A:=[]) (Ts:=[]) rfl λ w0=>?_;refine ae 21 (ow 0 15) λ n1=>?_;exact aaq [] [] [] ⟨rfl,rfl⟩
theorem PU(F:HL):Sp Tryz.prog 265 #[vI 5] [] F (λ u H'=>u=.func (.func 299) #[] #[] /\ H'=[]):=by
 refine aau Tryz.func265 rfl mn (A:=[]) (Ts:=[]) rfl λ w0=>?_;refine ae 21 (ow 0 15) λ n1=>?_;exact aaq [] [] [] ⟨rfl,rfl⟩
theorem NB(F:HL):Sp Tryz.prog 265 #[vI 18] [] F (λ u H'=>u=.func (.func 301) #[] #[] /\ H'=[]):=by
 refine aau Tryz.func265 rfl mn (A:=[]) (Ts:=[]) rfl λ w0=>?_;refine ae 21 (ow 0 15) λ n1=>?_;exact aaq [] [] [] ⟨rfl,rfl⟩
theorem NC(F:HL):Sp Tryz.prog 265 #[vI 19] [] F (λ u H'=>u=.func (.func 302) #[] #[] /\ H'=[]):=by
 refine aau Tryz.func265 rfl mn (A:=[]) (Ts:=[]) rfl λ w0=>?_;refine ae 21 (ow 0 15) λ n1=>?_;exact aaq [] [] [] ⟨rfl,rfl⟩
theorem ND(F:HL):Sp Tryz.prog 265 #[vI 20] [] F (λ u H'=>u=.func (.func 303) #[] #[] /\ H'=[]):=by
 refine aau Tryz.func265 rfl mn (A:=[]) (Ts:=[]) rfl λ w0=>?_;refine ae 21 (ow 0 15) λ n1=>?_;exact aaq [] [] [] ⟨rfl,rfl⟩
theorem NE(F:HL):Sp Tryz.prog 265 #[vI 21] [] F (λ u H'=>u=.func (.func 305) #[] #[] /\ H'=[]):=by
 refine aau Tryz.func265 rfl mn (A:=[]) (Ts:=[]) rfl λ w0=>?_;refine ae 21 (ow 0 15) λ n1=>?_;exact aaq [] [] [] ⟨rfl,rfl⟩
theorem NF(mb:Nat)(M:MemS)(k:Nat)(T:HL)(kd v:Int)(F:HL)(hM:MemH mb M (k+2) T) :Sp Tryz.prog 304 #[.iface 113 (vP mb 0),vI kd,vI v] (ap [] [T]) F (λ u H'=>∃x,H'=ap [] [x] /\ (MemH mb ((cG kd v M).M) k x /\ u=.tuple #[.agg (aaa (cG kd v M).e).toArray,.bool ((cG kd v M).em)])):=by
 refine aau Tryz.func304 rfl mn (A:=[]) (Ts:=[T]) rfl λ w0=>?_;refine ae 9 [] λ n1=>aai (av 11 hM (ar 0))<|ae 10 [] λ _=>aam (M.get 11 >= 40) 14 (λ h2=>?_) λ h2=>?_
 ·refine ae 8 (aab 4) λ _=>aaq (aab 4) [] [0] (v:=.tuple #[.agg #[vI 0,vI 0,vI 0,vI 0],.bool false]) (H':=(ap [] [T])) ?_;refine⟨T,rfl,?_⟩;refine⟨?_,?_⟩
  ·simp only[cG,if_pos h2];exact hM.weak (by omega)
  ·simp only[cG,if_pos h2]
 ·refine ae 6 [] λ _=>aai (av 0 hM (ar 0))<|ae 6 [] λ _=>aai (av 12 hM (ar 0))<|ae 4 [] λ n3=>aak 0 (.rows 1 4 (aE [M.get 12,M.get 0,kd,v]) 3 (0,0))<|aai (qR (⟨#[101,102,102,101,99,116]⟩) ([M.get 12,M.get 0,kd,v]) (n3+0) 4 _ (by decide) (aaJ rfl) (aaJ rfl) (aw 0))<|ae 9 [] λ _=>aaj [] [0] (aj 12 (i64.wrap ((uX (⟨#[101,102,102,101,99,116]⟩) ([M.get 12,M.get 0,kd,v])).fdiv 2)) hM) ?_;rintro _ T4 UG;refine ae 7 [] λ _=>aaj [] [0] (aj 11 (i64.wrap ((M.get 11)+1)) UG) ?_;rintro _ T6 X6;refine ae 13 [.own 1,.own 1,.own 1,.own 1] λ _=>aaq [.own 1,.own 1,.own 1,.own 1] [] [0] (v:=.tuple #[.agg #[vI (M.get 0),vI (M.get 11),vI kd,vI v],.bool true]) (H':=(ap [] [T6])) ?_;refine⟨T6,rfl,?_⟩;refine⟨?_,?_⟩
  ·simp only[cG,if_neg h2];exact X6.weak (by omega)
  ·simp only[cG,if_neg h2]
theorem Rz(mb:Nat)(M:MemS)(k:Nat)(T:HL)(S:Setup)(n a b:Int)(F:HL)(hM:MemH mb M (k+1) T)(hS:SetN S):Sp Tryz.prog 297 #[.iface 113 (vP mb 0),(Setup.v S),.agg #[vI n,vI a,vI b]] (ap [] [T]) F (λ u H'=>∃x,H'=ap [] [x] /\ (MemH mb (M.set (bd (32+n)) a) k x /\ u=.tuple #[vI 0,.agg #[vI 0,vI 0,vI 0,vI 0],.bool false])):=by
 have h1:=hS.pl;have h2:=hS.nb;refine aau Tryz.func297 rfl mn (A:=[]) (Ts:=[T]) rfl λ w0=>?_;refine ae 17 [.own 1,.own 1] λ n1=>aaj [] [0] (aj (i64.wrap (32+n)) a hM) ?_;rintro _ T2 TT;refine ae 10 (aab 4) λ _=>aaq (aab 4) [] [0] (v:=.tuple #[vI 0,.agg #[vI 0,vI 0,vI 0,vI 0],.bool false]) (H':=(ap [] [T2])) ?_;refine⟨T2,rfl,?_⟩;refine⟨?_,?_⟩
 ·first|(simp only[];exact TT.weak (by omega))|exact TT.weak (by omega)
 ·first|rfl|(simp only[];done)|(simp only[];rfl)
theorem RA(mb:Nat)(M:MemS)(k:Nat)(T:HL)(S:Setup)(n a b:Int)(F:HL)(hM:MemH mb M (k+0) T)(hS:SetN S):Sp Tryz.prog 298 #[.iface 113 (vP mb 0),(Setup.v S),.agg #[vI n,vI a,vI b]] (ap [] [T]) F (λ u H'=>∃x,H'=ap [] [x] /\ (MemH mb (M) k x /\ u=.tuple #[vI (if af S a >= 0 then M.get (bd (af S a+n)) else 0),.agg #[vI 0,vI 0,vI 0,vI 0],.bool false])):=by
 have h1:=hS.pl;have h2:=hS.nb;refine aau Tryz.func298 rfl mn (A:=[]) (Ts:=[T]) rfl λ w0=>?_;refine ae 15 (ow 2 16++[.own 1]) λ n1=>aai (cQ S a _ hS) ?_;have We:=cP hS a;refine ae 9 [] λ _=>aam (af S a >= 0) 15 (λ h3=>?_) λ h3=>?_
 ·refine ae 8 [.own 1] λ _=>aai (av (i64.wrap ((af S a)+n)) hM (ar 0))<|ae 6 (aab 4) λ _=>aaq (aab 4) [] [0] (v:=.tuple #[vI (M.get (i64.wrap ((af S a)+n))),.agg #[vI 0,vI 0,vI 0,vI 0],.bool false]) (H':=(ap [] [T])) ?_;refine⟨T,rfl,?_⟩;refine⟨?_,?_⟩
  ·first|(simp only[if_pos h3];exact hM.weak (by omega))|exact hM.weak (by omega)
  ·first|rfl|(simp only[if_pos h3];done)|(simp only[if_pos h3];rfl)
 ·refine ae 11 (aab 4) λ _=>aaq (aab 4) [] [0] (v:=.tuple #[vI 0,.agg #[vI 0,vI 0,vI 0,vI 0],.bool false]) (H':=(ap [] [T])) ?_;refine⟨T,rfl,?_⟩;refine⟨?_,?_⟩
  ·first|(simp only[if_neg h3];exact hM.weak (by omega))|exact hM.weak (by omega)
  ·first|rfl|(simp only[if_neg h3];done)|(simp only[if_neg h3];rfl)
theorem RB(mb:Nat)(M:MemS)(k:Nat)(T:HL)(S:Setup)(n a b:Int)(F:HL)(hM:MemH mb M (k+1) T)(hS:SetN S):Sp Tryz.prog 299 #[.iface 113 (vP mb 0),(Setup.v S),.agg #[vI n,vI a,vI b]] (ap [] [T]) F (λ u H'=>∃x,H'=ap [] [x] /\ (MemH mb (if af S a >= 0 then M.set (bd (af S a+n)) (nU n b) else M) k x /\ u=.tuple #[vI 0,.agg #[vI 0,vI 0,vI 0,vI 0],.bool false])):=by
 have h1:=hS.pl;have h2:=hS.nb;refine aau Tryz.func299 rfl mn (A:=[]) (Ts:=[T]) rfl λ w0=>?_;refine ae 15 (ow 2 16++[.own 1]) λ n1=>aai (cQ S a _ hS) ?_;have We:=cP hS a;refine ae 9 [] λ _=>aam (af S a >= 0) 15 (λ h3=>?_) λ h3=>?_
 ·refine ae 1 [] λ _=>aal [13] []<|ag [] [0,1,2,5,7,3,6,8,10,4,11,12] [.own 1,.own 1,.own 1]<|aac [] 9 (λ X_=>(DH n b  _))<|aae 13 (aaf [] [] [0] (aj (i64.wrap ((af S a)+n)) (nU n b) hM) ?_);rintro _ T4 UG;refine aad<|ae 9 (aab 4) λ _=>aaq (aab 4) [] [0] (v:=.tuple #[vI 0,.agg #[vI 0,vI 0,vI 0,vI 0],.bool false]) (H':=(ap [] [T4])) ?_;refine⟨T4,rfl,?_⟩;refine⟨?_,?_⟩
  ·first|(simp only[if_pos h3];exact UG.weak (by omega))|exact UG.weak (by omega)
  ·first|rfl|(simp only[if_pos h3];done)|(simp only[if_pos h3];rfl)
 ·refine ae 11 (aab 4) λ _=>aaq (aab 4) [] [0] (v:=.tuple #[vI 0,.agg #[vI 0,vI 0,vI 0,vI 0],.bool false]) (H':=(ap [] [T])) ?_;refine⟨T,rfl,?_⟩;refine⟨?_,?_⟩
  ·first|(simp only[if_neg h3];exact hM.weak (by omega))|exact hM.weak (by omega)
  ·first|rfl|(simp only[if_neg h3];done)|(simp only[if_neg h3];rfl)
theorem PV(mb:Nat)(M:MemS)(k:Nat)(T:HL)(S:Setup)(n a b:Int)(F:HL)(hM:MemH mb M (k+1) T)(hS:SetN S):Sp Tryz.prog 301 #[.iface 113 (vP mb 0),(Setup.v S),.agg #[vI n,vI a,vI b]] (ap [] [T]) F (λ u H'=>∃x,H'=ap [] [x] /\ (MemH mb (M.set 6 n) k x /\ u=.tuple #[vI 0,.agg #[vI 0,vI 0,vI 0,vI 0],.bool false])):=by
 have h1:=hS.pl;have h2:=hS.nb;refine aau Tryz.func301 rfl mn (A:=[]) (Ts:=[T]) rfl λ w0=>?_;refine ae 14 [.own 1] λ n1=>aaj [] [0] (aj 6 n hM) ?_;rintro _ T2 TT;refine ae 10 (aab 4) λ _=>aaq (aab 4) [] [0] (v:=.tuple #[vI 0,.agg #[vI 0,vI 0,vI 0,vI 0],.bool false]) (H':=(ap [] [T2])) ?_;refine⟨T2,rfl,?_⟩;refine⟨?_,?_⟩
 ·first|(simp only[];exact TT.weak (by omega))|exact TT.weak (by omega)
 ·first|rfl|(simp only[];done)|(simp only[];rfl)
theorem PW(mb:Nat)(M:MemS)(k:Nat)(T:HL)(S:Setup)(n a b:Int)(F:HL)(hM:MemH mb M (k+1) T)(hS:SetN S):Sp Tryz.prog 302 #[.iface 113 (vP mb 0),(Setup.v S),.agg #[vI n,vI a,vI b]] (ap [] [T]) F (λ u H'=>∃x,H'=ap [] [x] /\ (MemH mb (if a=0 then M.set 6 n else M) k x /\ u=.tuple #[vI 0,.agg #[vI 0,vI 0,vI 0,vI 0],.bool false])):=by
 have h1:=hS.pl;have h2:=hS.nb;refine aau Tryz.func302 rfl mn (A:=[]) (Ts:=[T]) rfl λ w0=>?_;refine ae 17 [.own 1] λ n1=>aam (a=0) 11 (λ h2=>?_) λ h2=>?_
 ·refine ae 5 [.own 1] λ _=>aaj [] [0] (aj 6 n hM) ?_;rintro _ T3 Is;refine ae 10 (aab 4) λ _=>aaq (aab 4) [] [0] (v:=.tuple #[vI 0,.agg #[vI 0,vI 0,vI 0,vI 0],.bool false]) (H':=(ap [] [T3])) ?_;refine⟨T3,rfl,?_⟩;refine⟨?_,?_⟩
  ·first|(simp only[if_pos h2];exact Is.weak (by omega))|exact Is.weak (by omega)
  ·first|rfl|(simp only[if_pos h2];done)|(simp only[if_pos h2];rfl)
 ·refine ae 11 (aab 4) λ _=>aaq (aab 4) [] [0] (v:=.tuple #[vI 0,.agg #[vI 0,vI 0,vI 0,vI 0],.bool false]) (H':=(ap [] [T])) ?_;refine⟨T,rfl,?_⟩;refine⟨?_,?_⟩
  ·first|(simp only[if_neg h2];exact hM.weak (by omega))|exact hM.weak (by omega)
  ·first|rfl|(simp only[if_neg h2];done)|(simp only[if_neg h2];rfl)
theorem PX(mb:Nat)(M:MemS)(k:Nat)(T:HL)(S:Setup)(n a b:Int)(F:HL)(hM:MemH mb M (k+2) T)(hS:SetN S):Sp Tryz.prog 303 #[.iface 113 (vP mb 0),(Setup.v S),.agg #[vI n,vI a,vI b]] (ap [] [T]) F (λ u H'=>∃x,H'=ap [] [x] /\ (MemH mb ((cG a b M).M) k x /\ u=.tuple #[vI 0,.agg (aaa (cG a b M).e).toArray,.bool ((cG a b M).em)])):=by
 have h1:=hS.pl;have h2:=hS.nb;refine aau Tryz.func303 rfl mn (A:=[]) (Ts:=[T]) rfl λ w0=>?_;refine ae 16 [.own 1,.own 1] λ n1=>aaj [] [0] (NF mb M k T a b _ hM) ?_;rintro _ T2 ⟨TT,rfl⟩;refine ae 9 (aab 4) λ n4=>aal [3] [0,2,3]<|ag [0,2,3] [0,1,2] (aab 4)<|aae 3 (aag [0,2,3] [.own 1,.own 1,.own 1,.own 1] λ _=>?_);refine ag [0,2,3] [4] []<|aad<|ae 1 [] λ _=>aaq [.own 1,.own 1,.own 1,.own 1] [] [0] (v:=.tuple #[vI 0,.agg (aaa (cG a b M).e).toArray,.bool ((cG a b M).em)]) (H':=(ap [] [T2])) ?_;refine⟨T2,rfl,?_⟩;refine⟨?_,?_⟩
 ·first|(simp only[];exact TT.weak (by omega))|exact TT.weak (by omega)
 ·first|rfl|(simp only[];done)|(simp only[];rfl)
theorem PY(mb:Nat)(M:MemS)(k:Nat)(T:HL)(S:Setup)(n a b:Int)(F:HL)(hM:MemH mb M (k+0) T)(hS:SetN S):Sp Tryz.prog 305 #[.iface 113 (vP mb 0),(Setup.v S),.agg #[vI n,vI a,vI b]] (ap [] [T]) F (λ u H'=>∃x,H'=ap [] [x] /\ (MemH mb (M) k x /\ u=.tuple #[vI 0,.agg #[vI 0,vI 0,vI 0,vI 0],.bool false])):=by
 have h1:=hS.pl;have h2:=hS.nb;refine aau Tryz.func305 rfl mn (A:=[]) (Ts:=[T]) rfl λ w0=>?_;refine ae 17 (aab 4) λ n1=>aaq (aab 4) [] [0] (v:=.tuple #[vI 0,.agg #[vI 0,vI 0,vI 0,vI 0],.bool false]) (H':=(ap [] [T])) ?_;refine⟨T,rfl,?_⟩;refine⟨?_,?_⟩
 ·first|(simp only[];exact hM.weak (by omega))|exact hM.weak (by omega)
 ·first|rfl|(simp only[];done)|(simp only[];rfl)
theorem jV(mb:Nat)(M:MemS)(k:Nat)(T:HL)(S:Setup)(op n a b:Int)(F:HL)(hM:MemH mb M (k+2) T)(hS:SetN S)(ho:1 <= op /\ op <= 21):Sp Tryz.prog 232 #[vI op,.iface 113 (vP mb 0),(Setup.v S),.agg #[vI n,vI a,vI b]] (ap [] [T]) F (λ u H'=>∃x,H'=ap [] [x] /\ (MemH mb ((aC S op n a b M).M) k x /\ u=.tuple #[vI ((aC S op n a b M).v),.agg (aaa (aC S op n a b M).e).toArray,.bool ((aC S op n a b M).em)])):=by
 refine aau Tryz.func232 rfl mn (A:=[]) (Ts:=[T]) rfl λ w0=>?_;refine ae 23 [] λ n1=>aam (op=1) 12 (λ h2=>?_) λ h2=>?_
 ·subst h2;refine ae 5 [] λ _=>aal [8] [1,2]<|ag [1,2] [0,2,3,6,4] [.own 1]<|aac [1,2] 1 (λ X_=>(PK _))<|aac [1,2] 5 (λ X_=>(ld1 mb M _ T n _ hM (aO 0)))<|ag [1,2] [7] []<|aae 8 (aag [1,2] (aab 4) λ _=>?_);refine ag [1,2] [9] []<|aad<|ae 1 [] λ _=>aaq (aab 4) [] [0] (v:=.tuple #[vI n,.agg #[vI 0,vI 0,vI 0,vI 0],.bool false]) (H':=(ap [] [T])) ?_;refine⟨T,rfl,?_⟩;exact⟨hM.weak (by omega),rfl⟩
 ·refine ae 7 [] λ _=>aam (op=2) 12 (λ h3=>?_) λ h3=>?_
  ·subst h3;refine ae 5 [] λ _=>aal [8] [1,2]<|ag [1,2] [0,2,3,6,4] [.own 1]<|aac [1,2] 1 (λ X_=>(PL _))<|aac [1,2] 5 (λ X_=>(ld2 mb M _ T n _ hM (aO 0)))<|ag [1,2] [7] []<|aae 8 (aag [1,2] (aab 4) λ _=>?_);refine ag [1,2] [9] []<|aad<|ae 1 [] λ _=>aaq (aab 4) [] [0] (v:=.tuple #[vI (M.get (bd (32+n))),.agg #[vI 0,vI 0,vI 0,vI 0],.bool false]) (H':=(ap [] [T])) ?_;refine⟨T,rfl,?_⟩;exact⟨hM.weak (by omega),rfl⟩
  ·refine ae 7 [] λ _=>aam (op=6) 12 (λ h4=>?_) λ h4=>?_
   ·subst h4;refine ae 5 [] λ _=>aal [8] [1,2]<|ag [1,2] [0,2,3,6,4] [.own 1]<|aac [1,2] 1 (λ X_=>(PM _))<|aac [1,2] 5 (λ X_=>(ld3 mb M _ T n _ hM (aO 0)))<|ag [1,2] [7] []<|aae 8 (aag [1,2] (aab 4) λ _=>?_);refine ag [1,2] [9] []<|aad<|ae 1 [] λ _=>aaq (aab 4) [] [0] (v:=.tuple #[vI (M.get 9),.agg #[vI 0,vI 0,vI 0,vI 0],.bool false]) (H':=(ap [] [T])) ?_;refine⟨T,rfl,?_⟩;exact⟨hM.weak (by omega),rfl⟩
   ·refine ae 7 [] λ _=>aam (op=7) 12 (λ h5=>?_) λ h5=>?_
    ·subst h5;refine ae 5 [] λ _=>aal [8] [1,2]<|ag [1,2] [0,2,3,6,4] [.own 1]<|aac [1,2] 1 (λ X_=>(PN _))<|aac [1,2] 5 (λ X_=>(ld4 mb M _ T n _ hM (aO 0)))<|ag [1,2] [7] []<|aae 8 (aag [1,2] (aab 4) λ _=>?_);refine ag [1,2] [9] []<|aad<|ae 1 [] λ _=>aaq (aab 4) [] [0] (v:=.tuple #[vI (M.get 10),.agg #[vI 0,vI 0,vI 0,vI 0],.bool false]) (H':=(ap [] [T])) ?_;refine⟨T,rfl,?_⟩;exact⟨hM.weak (by omega),rfl⟩
    ·refine ae 6 [] λ _=>aam (op=8) 12 (λ h6=>?_) λ h6=>?_
     ·subst h6;refine ae 2 [] λ _=>aal [8] [1,2]<|ag [1,2] [0,2,3,6,4] [.own 1]<|aac [1,2] 1 (λ X_=>(PO _))<|aac [1,2] 5 (λ X_=>(ld5 mb M _ T n _ hM (aO 0)))<|ag [1,2] [7] []<|aae 8 (aag [1,2] (aab 4) λ _=>?_);refine ag [1,2] [9] []<|aad<|ae 1 [] λ _=>aaq (aab 4) [] [0] (v:=.tuple #[vI (M.get 0),.agg #[vI 0,vI 0,vI 0,vI 0],.bool false]) (H':=(ap [] [T])) ?_;refine⟨T,rfl,?_⟩;exact⟨hM.weak (by omega),rfl⟩
     ·refine ae 8 [] λ _=>aam (op=9) 25 (λ h7=>?_) λ h7=>?_
      ·subst h7;refine ae 5 [] λ _=>aal [9] [1,2]<|ag [1,2] [0,2,4,7,3,5] [.own 1,.own 1]<|aac [1,2] 1 (λ X_=>(PP _))<|aac [1,2] 6 (λ X_=>(Rn a b _))<|ag [1,2] [8] []<|aae 9 (aag [1,2] (aab 4) λ _=>?_);refine ag [1,2] [10] []<|aad<|ae 1 [] λ _=>aaq (aab 4) [] [0] (v:=.tuple #[vI (ls (bd (a+b))),.agg #[vI 0,vI 0,vI 0,vI 0],.bool false]) (H':=(ap [] [T])) ?_;refine⟨T,rfl,?_⟩;exact⟨hM.weak (by omega),rfl⟩
      ·refine ae 7 [] λ _=>aam (op=10) 25 (λ h8=>?_) λ h8=>?_
       ·subst h8;refine ae 5 [] λ _=>aal [9] [1,2]<|ag [1,2] [0,2,4,7,3,5] [.own 1,.own 1]<|aac [1,2] 1 (λ X_=>(Nq _))<|aac [1,2] 6 (λ X_=>(Rp a b _))<|ag [1,2] [8] []<|aae 9 (aag [1,2] (aab 4) λ _=>?_);refine ag [1,2] [10] []<|aad<|ae 1 [] λ _=>aaq (aab 4) [] [0] (v:=.tuple #[vI (ls (bd (a-b))),.agg #[vI 0,vI 0,vI 0,vI 0],.bool false]) (H':=(ap [] [T])) ?_;refine⟨T,rfl,?_⟩;exact⟨hM.weak (by omega),rfl⟩
       ·refine ae 7 [] λ _=>aam (op=11) 25 (λ h9=>?_) λ h9=>?_
        ·subst h9;refine ae 5 [] λ _=>aal [9] [1,2]<|ag [1,2] [0,2,4,7,3,5] [.own 1,.own 1]<|aac [1,2] 1 (λ X_=>(Nr _))<|aac [1,2] 6 (λ X_=>(Rq a b _))<|ag [1,2] [8] []<|aae 9 (aag [1,2] (aab 4) λ _=>?_);refine ag [1,2] [10] []<|aad<|ae 1 [] λ _=>aaq (aab 4) [] [0] (v:=.tuple #[vI (ls (bd (a*b))),.agg #[vI 0,vI 0,vI 0,vI 0],.bool false]) (H':=(ap [] [T])) ?_;refine⟨T,rfl,?_⟩;exact⟨hM.weak (by omega),rfl⟩
        ·refine ae 7 [] λ _=>aam (op=12) 25 (λ Uh=>?_) λ Uh=>?_
         ·subst Uh;refine ae 5 [] λ _=>aal [9] [1,2]<|ag [1,2] [0,2,4,7,3,5] [.own 1,.own 1]<|aac [1,2] 1 (λ X_=>(Ns _))<|aac [1,2] 6 (λ X_=>(Rt a b _))<|ag [1,2] [8] []<|aae 9 (aag [1,2] (aab 4) λ _=>?_);refine ag [1,2] [10] []<|aad<|ae 1 [] λ _=>aaq (aab 4) [] [0] (v:=.tuple #[vI (if b=0 then 0 else ls (bd (a.tdiv b))),.agg #[vI 0,vI 0,vI 0,vI 0],.bool false]) (H':=(ap [] [T])) ?_;refine⟨T,rfl,?_⟩;exact⟨hM.weak (by omega),rfl⟩
         ·refine ae 7 [] λ _=>aam (op=14) 25 (λ Tw=>?_) λ Tw=>?_
          ·subst Tw;refine ae 5 [] λ _=>aal [9] [1,2]<|ag [1,2] [0,2,4,7,3,5] [.own 1,.own 1]<|aac [1,2] 1 (λ X_=>(Nt _))<|aac [1,2] 6 (λ X_=>(Ru a b _))<|ag [1,2] [8] []<|aae 9 (aag [1,2] (aab 4) λ _=>?_);refine ag [1,2] [10] []<|aad<|ae 1 [] λ _=>aaq (aab 4) [] [0] (v:=.tuple #[vI (gO (decide (a<b))),.agg #[vI 0,vI 0,vI 0,vI 0],.bool false]) (H':=(ap [] [T])) ?_;refine⟨T,rfl,?_⟩;exact⟨hM.weak (by omega),rfl⟩
          ·refine ae 7 [] λ _=>aam (op=15) 25 (λ SO=>?_) λ SO=>?_
           ·subst SO;refine ae 5 [] λ _=>aal [9] [1,2]<|ag [1,2] [0,2,4,7,3,5] [.own 1,.own 1]<|aac [1,2] 1 (λ X_=>(Nw _))<|aac [1,2] 6 (λ X_=>(Rx a b _))<|ag [1,2] [8] []<|aae 9 (aag [1,2] (aab 4) λ _=>?_);refine ag [1,2] [10] []<|aad<|ae 1 [] λ _=>aaq (aab 4) [] [0] (v:=.tuple #[vI (gO (decide (a <= b))),.agg #[vI 0,vI 0,vI 0,vI 0],.bool false]) (H':=(ap [] [T])) ?_;refine⟨T,rfl,?_⟩;exact⟨hM.weak (by omega),rfl⟩
           ·refine ae 6 [] λ _=>aam (op=16) 25 (λ TZ=>?_) λ TZ=>?_
            ·subst TZ;refine ae 2 [] λ _=>aal [9] [1,2]<|ag [1,2] [0,2,4,7,3,5] [.own 1,.own 1]<|aac [1,2] 1 (λ X_=>(Ny _))<|aac [1,2] 6 (λ X_=>(Ry a b _))<|ag [1,2] [8] []<|aae 9 (aag [1,2] (aab 4) λ _=>?_);refine ag [1,2] [10] []<|aad<|ae 1 [] λ _=>aaq (aab 4) [] [0] (v:=.tuple #[vI (gO (decide (a=b))),.agg #[vI 0,vI 0,vI 0,vI 0],.bool false]) (H':=(ap [] [T])) ?_;refine⟨T,rfl,?_⟩;exact⟨hM.weak (by omega),rfl⟩
            ·refine ae 8 [] λ _=>aam (op=13) 41 (λ UI=>?_) λ UI=>?_
             ·subst UI;refine ae 5 [] λ _=>aal [7] [1,2]<|ag [1,2] [0,2,5,3] [.own 1]<|aac [1,2] 1 (λ X_=>(Nz _))<|aac [1,2] 4 (λ X_=>(un1 a _))<|ag [1,2] [6] []<|aae 7 (aag [1,2] (aab 4) λ _=>?_);refine ag [1,2] [8] []<|aad<|ae 1 [] λ _=>aaq (aab 4) [] [0] (v:=.tuple #[vI (ls (bd (0-a))),.agg #[vI 0,vI 0,vI 0,vI 0],.bool false]) (H':=(ap [] [T])) ?_;refine⟨T,rfl,?_⟩;exact⟨hM.weak (by omega),rfl⟩
             ·refine ae 6 [] λ _=>aam (op=17) 41 (λ XD=>?_) λ XD=>?_
              ·subst XD;refine ae 2 [] λ _=>aal [7] [1,2]<|ag [1,2] [0,2,5,3] [.own 1]<|aac [1,2] 1 (λ X_=>(NA _))<|aac [1,2] 4 (λ X_=>(un2 a _))<|ag [1,2] [6] []<|aae 7 (aag [1,2] (aab 4) λ _=>?_);refine ag [1,2] [8] []<|aad<|ae 1 [] λ _=>aaq (aab 4) [] [0] (v:=.tuple #[vI (gO (decide (a=0))),.agg #[vI 0,vI 0,vI 0,vI 0],.bool false]) (H':=(ap [] [T])) ?_;refine⟨T,rfl,?_⟩;exact⟨hM.weak (by omega),rfl⟩
              ·refine ae 5 [] λ _=>?_;have h7:op=3 \/ op=4 \/ op=5 \/ op=18 \/ op=19 \/ op=20 \/ op=21:=by omega
               rcases h7 with rfl|rfl|rfl|rfl|rfl|rfl|rfl
               ·refine aal [5,10] []<|ag [] [0,2,3,4] (ow 2 16++[.own 1,.own 1,.own 1])<|aac [] 1 (λ X_=>(PQ _))<|aae 5 (aaf [] [] [0] (Rz mb M (k+1) T S n a b _ hM hS) ?_);rintro _ Wl ⟨Vw,rfl⟩;refine ag [] [6,7,8,9] []<|aae 10 (aag [] (aab 4) λ _=>?_);refine ag [] [11] []<|aad<|ae 1 [] λ _=>aaq (aab 4) [] [0] (v:=.tuple #[vI 0,.agg #[vI 0,vI 0,vI 0,vI 0],.bool false]) (H':=(ap [] [Wl])) ?_;refine⟨Wl,rfl,?_⟩;exact⟨Vw.weak (by omega),rfl⟩
               ·refine aal [5,10] []<|ag [] [0,2,3,4] (ow 2 16++[.own 1,.own 1,.own 1])<|aac [] 1 (λ X_=>(PT _))<|aae 5 (aaf [] [] [0] (RA mb M (k+2) T S n a b _ hM hS) ?_);rintro _ T18 ⟨Xf,rfl⟩;refine ag [] [6,7,8,9] []<|aae 10 (aag [] (aab 4) λ _=>?_);refine ag [] [11] []<|aad<|ae 1 [] λ _=>aaq (aab 4) [] [0] (v:=.tuple #[vI (if af S a >= 0 then M.get (bd (af S a+n)) else 0),.agg #[vI 0,vI 0,vI 0,vI 0],.bool false]) (H':=(ap [] [T18])) ?_;refine⟨T18,rfl,?_⟩;exact⟨Xf.weak (by omega),rfl⟩
               ·refine aal [5,10] []<|ag [] [0,2,3,4] (ow 2 16++[.own 1,.own 1,.own 1])<|aac [] 1 (λ X_=>(PU _))<|aae 5 (aaf [] [] [0] (RB mb M (k+1) T S n a b _ hM hS) ?_);rintro _ VA ⟨Xd,rfl⟩;refine ag [] [6,7,8,9] []<|aae 10 (aag [] (aab 4) λ _=>?_);refine ag [] [11] []<|aad<|ae 1 [] λ _=>aaq (aab 4) [] [0] (v:=.tuple #[vI 0,.agg #[vI 0,vI 0,vI 0,vI 0],.bool false]) (H':=(ap [] [VA])) ?_;refine⟨VA,rfl,?_⟩;exact⟨Xd.weak (by omega),rfl⟩
               ·refine aal [5,10] []<|ag [] [0,2,3,4] (ow 2 16++[.own 1,.own 1,.own 1])<|aac [] 1 (λ X_=>(NB _))<|aae 5 (aaf [] [] [0] (PV mb M (k+1) T S n a b _ hM hS) ?_);rintro _ Y6 ⟨Xc,rfl⟩;refine ag [] [6,7,8,9] []<|aae 10 (aag [] (aab 4) λ _=>?_);refine ag [] [11] []<|aad<|ae 1 [] λ _=>aaq (aab 4) [] [0] (v:=.tuple #[vI 0,.agg #[vI 0,vI 0,vI 0,vI 0],.bool false]) (H':=(ap [] [Y6])) ?_;refine⟨Y6,rfl,?_⟩;exact⟨Xc.weak (by omega),rfl⟩
               ·refine aal [5,10] []<|ag [] [0,2,3,4] (ow 2 16++[.own 1,.own 1,.own 1])<|aac [] 1 (λ X_=>(NC _))<|aae 5 (aaf [] [] [0] (PW mb M (k+1) T S n a b _ hM hS) ?_);rintro _ Y1 ⟨Xb,rfl⟩;refine ag [] [6,7,8,9] []<|aae 10 (aag [] (aab 4) λ _=>?_);refine ag [] [11] []<|aad<|ae 1 [] λ _=>aaq (aab 4) [] [0] (v:=.tuple #[vI 0,.agg #[vI 0,vI 0,vI 0,vI 0],.bool false]) (H':=(ap [] [Y1])) ?_;refine⟨Y1,rfl,?_⟩;exact⟨Xb.weak (by omega),rfl⟩
               ·refine aal [5,10] []<|ag [] [0,2,3,4] (ow 2 16++[.own 1,.own 1,.own 1])<|aac [] 1 (λ X_=>(ND _))<|aae 5 (aaf [] [] [0] (PX mb M k T S n a b _ hM hS) ?_);rintro _ T26 ⟨agz,rfl⟩;refine ag [] [6,7,8,9] []<|aae 10 (aag [] (aab 4) λ _=>?_);refine ag [] [11] []<|aad<|ae 1 [] λ _=>aaq (aab 4) [] [0] (v:=.tuple #[vI 0,.agg (aaa (cG a b M).e).toArray,.bool ((cG a b M).em)]) (H':=(ap [] [T26])) ?_;refine⟨T26,rfl,?_⟩;exact⟨agz.weak (by omega),rfl⟩
               ·refine aal [5,10] []<|ag [] [0,2,3,4] (ow 2 16++[.own 1,.own 1,.own 1])<|aac [] 1 (λ X_=>(NE _))<|aae 5 (aaf [] [] [0] (PY mb M (k+2) T S n a b _ hM hS) ?_);rintro _ T28 ⟨Z8,rfl⟩;refine ag [] [6,7,8,9] []<|aae 10 (aag [] (aab 4) λ _=>?_);refine ag [] [11] []<|aad<|ae 1 [] λ _=>aaq (aab 4) [] [0] (v:=.tuple #[vI 0,.agg #[vI 0,vI 0,vI 0,vI 0],.bool false]) (H':=(ap [] [T28])) ?_;refine⟨T28,rfl,?_⟩;exact⟨Z8.weak (by omega),rfl⟩
theorem Gr(mb:Nat)(M:MemS)(k:Nat)(T:HL)(A:Option Addr)(n c:Nat)(e0 e1 e2 a b d:Int)(F:HL)(hM:MemH mb M (k+5) T) :Sp Tryz.prog 204 #[.iface 113 (vP mb 0),.agg #[.slice A n c,vI e0,vI e1,vI e2],vI 0,vI a,vI b,vI d] (ap [] [T]) F (λ u H'=>∃x,H'=ap [] [x] /\ (MemH mb (aN e0 d a b M) k x /\ u=.bool (!(decide (e0<0))))):=by
 refine aau Tryz.func204 rfl mn (A:=[]) (Ts:=[T]) rfl λ w0=>?_;refine ae 28 [.own 0] λ n1=>aam (e0<0) 29 (λ h2=>?_) λ h2=>?_
 ·refine ae 6 [] λ _=>aaq [] [] [0] (v:=.bool false) (H':=(ap [] [T])) ?_;refine⟨T,rfl,?_⟩;refine⟨?_,?_⟩
  ·simp only[aN,if_pos h2];exact hM.weak (by omega)
  ·rw[aba h2];rfl
 ·refine ae 4 [] λ _=>aal [8] []<|ag [] [0,1,2,3,5,4,6,7] [.own 0]<|aae 8 (aaf [] [] [0] (aj 6 e0 hM) ?_);rintro _ T3 Is;refine aad<|ae 4 [] λ _=>aaj [] [0] (aj 7 0 Is) ?_;rintro _ T5 SM;refine ae 6 [] λ _=>aaj [] [0] (aj 8 d SM) ?_;rintro _ T7 Ug;refine ae 6 [] λ _=>aaj [] [0] (aj 9 a Ug) ?_;rintro _ T9 Tt;refine ae 6 [] λ _=>aaj [] [0] (aj 10 b Tt) ?_;rintro _ OF No;refine ae 7 [] λ _=>aaq [] [] [0] (v:=.bool true) (H':=(ap [] [OF])) ?_;refine⟨OF,rfl,?_⟩;refine⟨?_,?_⟩
  ·simp only[aN,if_neg h2];exact No.weak (by omega)
  ·rw[aa9 h2];rfl
theorem Gs(mb:Nat)(M:MemS)(k:Nat)(T:HL)(A:Option Addr)(n c:Nat)(e0 e1 e2 a b d:Int)(F:HL)(hM:MemH mb M (k+5) T) :Sp Tryz.prog 204 #[.iface 113 (vP mb 0),.agg #[.slice A n c,vI e0,vI e1,vI e2],vI 1,vI a,vI b,vI d] (ap [] [T]) F (λ u H'=>∃x,H'=ap [] [x] /\ (MemH mb (aN e1 d a b M) k x /\ u=.bool (!(decide (e1<0))))):=by
 refine aau Tryz.func204 rfl mn (A:=[]) (Ts:=[T]) rfl λ w0=>?_;refine ae 28 [.own 0] λ n1=>aam (e1<0) 29 (λ h2=>?_) λ h2=>?_
 ·refine ae 6 [] λ _=>aaq [] [] [0] (v:=.bool false) (H':=(ap [] [T])) ?_;refine⟨T,rfl,?_⟩;refine⟨?_,?_⟩
  ·simp only[aN,if_pos h2];exact hM.weak (by omega)
  ·rw[aba h2];rfl
 ·refine ae 4 [] λ _=>aal [8] []<|ag [] [0,1,2,3,5,4,6,7] [.own 0]<|aae 8 (aaf [] [] [0] (aj 6 e1 hM) ?_);rintro _ T3 Is;refine aad<|ae 4 [] λ _=>aaj [] [0] (aj 7 0 Is) ?_;rintro _ T5 SM;refine ae 6 [] λ _=>aaj [] [0] (aj 8 d SM) ?_;rintro _ T7 Ug;refine ae 6 [] λ _=>aaj [] [0] (aj 9 a Ug) ?_;rintro _ T9 Tt;refine ae 6 [] λ _=>aaj [] [0] (aj 10 b Tt) ?_;rintro _ OF No;refine ae 7 [] λ _=>aaq [] [] [0] (v:=.bool true) (H':=(ap [] [OF])) ?_;refine⟨OF,rfl,?_⟩;refine⟨?_,?_⟩
  ·simp only[aN,if_neg h2];exact No.weak (by omega)
  ·rw[aa9 h2];rfl
theorem Gt(mb:Nat)(M:MemS)(k:Nat)(T:HL)(A:Option Addr)(n c:Nat)(e0 e1 e2 a b d:Int)(F:HL)(hM:MemH mb M (k+5) T) :Sp Tryz.prog 204 #[.iface 113 (vP mb 0),.agg #[.slice A n c,vI e0,vI e1,vI e2],vI 2,vI a,vI b,vI d] (ap [] [T]) F (λ u H'=>∃x,H'=ap [] [x] /\ (MemH mb (aN e2 d a b M) k x /\ u=.bool (!(decide (e2<0))))):=by
 refine aau Tryz.func204 rfl mn (A:=[]) (Ts:=[T]) rfl λ w0=>?_;refine ae 28 [.own 0] λ n1=>aam (e2<0) 29 (λ h2=>?_) λ h2=>?_
 ·refine ae 6 [] λ _=>aaq [] [] [0] (v:=.bool false) (H':=(ap [] [T])) ?_;refine⟨T,rfl,?_⟩;refine⟨?_,?_⟩
  ·simp only[aN,if_pos h2];exact hM.weak (by omega)
  ·rw[aba h2];rfl
 ·refine ae 4 [] λ _=>aal [8] []<|ag [] [0,1,2,3,5,4,6,7] [.own 0]<|aae 8 (aaf [] [] [0] (aj 6 e2 hM) ?_);rintro _ T3 Is;refine aad<|ae 4 [] λ _=>aaj [] [0] (aj 7 0 Is) ?_;rintro _ T5 SM;refine ae 6 [] λ _=>aaj [] [0] (aj 8 d SM) ?_;rintro _ T7 Ug;refine ae 6 [] λ _=>aaj [] [0] (aj 9 a Ug) ?_;rintro _ T9 Tt;refine ae 6 [] λ _=>aaj [] [0] (aj 10 b Tt) ?_;rintro _ OF No;refine ae 7 [] λ _=>aaq [] [] [0] (v:=.bool true) (H':=(ap [] [OF])) ?_;refine⟨OF,rfl,?_⟩;refine⟨?_,?_⟩
  ·simp only[aN,if_neg h2];exact No.weak (by omega)
  ·rw[aa9 h2];rfl
theorem Gu{op n sp:Int}(h:fh op n sp=true):1 <= op /\ op <= 21:=by
 unfold fh at h
 by_cases h1:op<1
 ·rw[if_pos h1] at h;cases h
 ·rw[if_neg h1] at h
  by_cases h2:op>21
  ·rw[if_pos h2] at h;cases h
  ·omega
theorem zU(mb:Nat)(M:MemS)(k:Nat)(T:HL)(S:Setup)(code:List Ins)(b R n cc:Nat)(e0 e1 e2:Int)(F:HL)(hM:MemH mb M (k+6) T)(hS:SetN S)(hE:cM F)(hc:(b,.rows 2 R (PJ code) 231 (0,0))∈F)(hnR:n <= R)(hn2:n <= 1000000):Sp Tryz.prog 205 #[.iface 113 (vP mb 0),(Setup.v S),.agg #[vS b 0 n cc,vI e0,vI e1,vI e2]] (ap [] [T]) F (λ u H'=>∃x,H'=ap [] [x] /\ (MemH mb ((ak S code n M).M) k x /\ u=.tuple #[.bool (bz code n M),.agg (aaa (ak S code n M).e).toArray,.bool ((ak S code n M).em)])):=by
 refine aau Tryz.func205 rfl (mc hc (mc hE mn)) (A:=[]) (Ts:=[T]) rfl λ w0=>?_;refine ae 22 [] λ n1=>aai (av 6 hM (ar 0))<|ae 1 [] λ _=>aai (av 7 hM (ar 0))<|ae 1 [] λ _=>aai (av 8 hM (ar 0))<|ae 11 [] λ _=>aam (M.get 8<1) 29 (λ h2=>?_) λ h2=>?_
 ·refine ae 31 (aab 4) λ _=>aaq (aab 4) [] [0] (v:=.tuple #[.bool true,.agg #[vI 0,vI 0,vI 0,vI 0],.bool false]) (H':=(ap [] [T])) ?_;refine⟨T,rfl,?_⟩;have hr:¬ dZ code n M:=λ UQ=>UQ.1 h2;refine⟨?_,?_⟩
  ·simp only[ak,bz,if_neg hr];exact hM.weak (by omega)
  ·first|(simp only[ak,bz,if_neg hr];try rfl;done)
 ·refine ae 4 [] λ _=>aam (M.get 6<0) 33 (λ h3=>?_) λ h3=>?_
  ·refine ae 27 (aab 4) λ _=>aaq (aab 4) [] [0] (v:=.tuple #[.bool true,.agg #[vI 0,vI 0,vI 0,vI 0],.bool false]) (H':=(ap [] [T])) ?_;refine⟨T,rfl,?_⟩;have hr:¬ dZ code n M:=λ UQ=>UQ.2.1 h3;refine⟨?_,?_⟩
   ·simp only[ak,bz,if_neg hr];exact hM.weak (by omega)
   ·first|(simp only[ak,bz,if_neg hr];try rfl;done)
  ·refine ae 7 [.own 1] λ _=>aam (M.get 6 >= (n:Int)) 40 (λ h4=>?_) λ h4=>?_
   ·refine ae 20 (aab 4) λ _=>aaq (aab 4) [] [0] (v:=.tuple #[.bool true,.agg #[vI 0,vI 0,vI 0,vI 0],.bool false]) (H':=(ap [] [T])) ?_;refine⟨T,rfl,?_⟩;have hr:¬ dZ code n M:=λ UQ=>UQ.2.2.1 h4;refine⟨?_,?_⟩
    ·simp only[ak,bz,if_neg hr];exact hM.weak (by omega)
    ·first|(simp only[ak,bz,if_neg hr];try rfl;done)
   ·refine ai 6 [.own 1,.ix ((M.get 6).toNat),.rorow 0 ((M.get 6).toNat) 0,.rorow 0 ((M.get 6).toNat) 1] [((0+((M.get 6).toNat)*2)+1)=((M.get 6).toNat)*2+1 /\ ((M.get 6).toNat)<R,(0+((M.get 6).toNat)*2)=((M.get 6).toNat)*2+0 /\ ((M.get 6).toNat)<R,M.get 6=(((M.get 6).toNat:Nat):Int) /\ (M.get 6).toNat<n] λ _=>aai (KL ((code.getD ((M.get 6).toNat) dIns).op) ((code.getD ((M.get 6).toNat) dIns).n) (M.get 7) _ (au hE))<|ae 4 [] λ _=>qI (fh ((code.getD ((M.get 6).toNat) dIns).op) ((code.getD ((M.get 6).toNat) dIns).n) (M.get 7)) 49 (λ h5=>?_) λ h5=>?_
    ·have ho:=Gu h5;refine ai 15 [.own 1,.ix ((M.get 6).toNat),.rorow 0 ((M.get 6).toNat) 0,.rorow 0 ((M.get 6).toNat) 1,.own 0,.own 0] [((0+((M.get 6).toNat)*2)+1)=((M.get 6).toNat)*2+1 /\ ((M.get 6).toNat)<R,(0+((M.get 6).toNat)*2)=((M.get 6).toNat)*2+0 /\ ((M.get 6).toNat)<R,M.get 6=(((M.get 6).toNat:Nat):Int) /\ (M.get 6).toNat<n] λ n6=>aal [] []<|aA [] [0,5,1,6,2,7,3,8,4,9,10,11] [.own 0,.own 0,.ix (((code.getD ((M.get 6).toNat) dIns).op).toNat),.ix (((code.getD ((M.get 6).toNat) dIns).op).toNat),.rorow 1 (((code.getD ((M.get 6).toNat) dIns).op).toNat) 0,.rorow 1 (((code.getD ((M.get 6).toNat) dIns).op).toNat) 1] [((0+(((code.getD ((M.get 6).toNat) dIns).op).toNat)*3)+1)=(((code.getD ((M.get 6).toNat) dIns).op).toNat)*3+1 /\ (((code.getD ((M.get 6).toNat) dIns).op).toNat)<22,(0+(((code.getD ((M.get 6).toNat) dIns).op).toNat)*3)=(((code.getD ((M.get 6).toNat) dIns).op).toNat)*3+0 /\ (((code.getD ((M.get 6).toNat) dIns).op).toNat)<22,(code.getD ((M.get 6).toNat) dIns).op=((((code.getD ((M.get 6).toNat) dIns).op).toNat:Nat):Int) /\ ((code.getD ((M.get 6).toNat) dIns).op).toNat<22,(code.getD ((M.get 6).toNat) dIns).op=((((code.getD ((M.get 6).toNat) dIns).op).toNat:Nat):Int) /\ ((code.getD ((M.get 6).toNat) dIns).op).toNat<22]<|aad<|ae 38 (aab 4) λ n7=>aam (eP ((code.getD ((M.get 6).toNat) dIns).op)=2) 74 (λ h8=>?_) λ h8=>?_
     ·refine ae 10 [] λ _=>aai (av (i64.wrap ((i64.wrap ((i64.wrap (16+(M.get 7)))-(eP ((code.getD ((M.get 6).toNat) dIns).op))))+1)) hM (ar 0))<|ae 9 [.own 0] λ _=>aai (av (i64.wrap ((i64.wrap (16+(M.get 7)))-(eP ((code.getD ((M.get 6).toNat) dIns).op)))) hM (ar 0))<|ae 12 [.own 0] λ _=>aaj [] [0] (aj 8 (i64.wrap ((M.get 8)-1)) hM) ?_;rintro _ T9 Tt;refine ae 7 [] λ _=>aaj [] [0] (aj 6 (i64.wrap ((M.get 6)+1)) Tt) ?_;rintro _ OF No;refine ae 10 [] λ _=>aan (eP ((code.getD ((M.get 6).toNat) dIns).op)=eQ ((code.getD ((M.get 6).toNat) dIns).op)) 97 (λ TZ=>?_) λ TZ=>?_
      ·refine ae 10 ([.own 1]++ow 4 16++(aab 3)) λ _=>aaj [] [0] (jV mb ((M.set 8 (i64.wrap ((M.get 8)-1))).set 6 (i64.wrap ((M.get 6)+1))) (k+2) OF S ((code.getD ((M.get 6).toNat) dIns).op) ((code.getD ((M.get 6).toNat) dIns).n) (M.get (i64.wrap ((i64.wrap (16+(M.get 7)))-(eP ((code.getD ((M.get 6).toNat) dIns).op))))) (M.get (i64.wrap ((i64.wrap ((i64.wrap (16+(M.get 7)))-(eP ((code.getD ((M.get 6).toNat) dIns).op))))+1))) _ No hS (by assumption)) ?_;rintro _ T14 ⟨Vx,rfl⟩;refine ae 16 [.own 2,.own 2,.own 2,.own 2] λ _=>aam (eQ ((code.getD ((M.get 6).toNat) dIns).op)>0) 116 (λ SY=>?_) λ SY=>?_
       ·refine ae 8 [] λ _=>aaj [] [0] (aj (i64.wrap ((i64.wrap (16+(M.get 7)))-(eP ((code.getD ((M.get 6).toNat) dIns).op)))) ((aC S ((code.getD ((M.get 6).toNat) dIns).op) ((code.getD ((M.get 6).toNat) dIns).n) (M.get (i64.wrap ((i64.wrap (16+(M.get 7)))-(eP ((code.getD ((M.get 6).toNat) dIns).op))))) (M.get (i64.wrap ((i64.wrap ((i64.wrap (16+(M.get 7)))-(eP ((code.getD ((M.get 6).toNat) dIns).op))))+1))) ((M.set 8 (i64.wrap ((M.get 8)-1))).set 6 (i64.wrap ((M.get 6)+1)))).v) Vx) ?_;rintro _ TA Ux;refine ae 3 [] λ _=>aal [6] [0,1,3,4]<|ag [0,1,3,4] [0,3,4,1,2,5] [.own 2,.own 2,.own 2,.own 2,.own 1]<|aae 6 (aag [0,1,3,4] [.own 2,.own 2,.own 2,.own 2] λ _=>?_);refine ag [0,1,3,4] [7] []<|aad<|ae 1 [] λ _=>aaq [.own 2,.own 2,.own 2,.own 2] [] [0] (v:=.tuple #[.bool (decide ((code.getD ((M.get 6).toNat) dIns).op=21)),.agg (aaa (aC S ((code.getD ((M.get 6).toNat) dIns).op) ((code.getD ((M.get 6).toNat) dIns).n) (M.get (i64.wrap ((i64.wrap (16+(M.get 7)))-(eP ((code.getD ((M.get 6).toNat) dIns).op))))) (M.get (i64.wrap ((i64.wrap ((i64.wrap (16+(M.get 7)))-(eP ((code.getD ((M.get 6).toNat) dIns).op))))+1))) ((M.set 8 (i64.wrap ((M.get 8)-1))).set 6 (i64.wrap ((M.get 6)+1)))).e).toArray,.bool ((aC S ((code.getD ((M.get 6).toNat) dIns).op) ((code.getD ((M.get 6).toNat) dIns).n) (M.get (i64.wrap ((i64.wrap (16+(M.get 7)))-(eP ((code.getD ((M.get 6).toNat) dIns).op))))) (M.get (i64.wrap ((i64.wrap ((i64.wrap (16+(M.get 7)))-(eP ((code.getD ((M.get 6).toNat) dIns).op))))+1))) ((M.set 8 (i64.wrap ((M.get 8)-1))).set 6 (i64.wrap ((M.get 6)+1)))).em)]) (H':=(ap [] [TA])) ?_;refine⟨TA,rfl,?_⟩;have hr:dZ code n M:=⟨h2,h3,h4,h5⟩;refine⟨?_,?_⟩
        ·simp only[ak,bz,if_pos hr,b7,bJ,eo,ep,dJ,br,if_pos h8,if_pos TZ,if_pos SY];exact Ux.weak (by omega)
        ·first|(simp only[ak,bz,if_pos hr,b7,bJ,eo,ep,dJ,br,if_pos h8,if_pos TZ,if_pos SY];try rfl;done)
       ·refine ae 4 [] λ _=>aal [6] [0,1,3,4]<|ag [0,1,3,4] [0,3,4,1,2,5] [.own 2,.own 2,.own 2,.own 2,.own 1]<|aae 6 (aag [0,1,3,4] [.own 2,.own 2,.own 2,.own 2] λ _=>?_);refine ag [0,1,3,4] [7] []<|aad<|ae 1 [] λ _=>aaq [.own 2,.own 2,.own 2,.own 2] [] [0] (v:=.tuple #[.bool (decide ((code.getD ((M.get 6).toNat) dIns).op=21)),.agg (aaa (aC S ((code.getD ((M.get 6).toNat) dIns).op) ((code.getD ((M.get 6).toNat) dIns).n) (M.get (i64.wrap ((i64.wrap (16+(M.get 7)))-(eP ((code.getD ((M.get 6).toNat) dIns).op))))) (M.get (i64.wrap ((i64.wrap ((i64.wrap (16+(M.get 7)))-(eP ((code.getD ((M.get 6).toNat) dIns).op))))+1))) ((M.set 8 (i64.wrap ((M.get 8)-1))).set 6 (i64.wrap ((M.get 6)+1)))).e).toArray,.bool ((aC S ((code.getD ((M.get 6).toNat) dIns).op) ((code.getD ((M.get 6).toNat) dIns).n) (M.get (i64.wrap ((i64.wrap (16+(M.get 7)))-(eP ((code.getD ((M.get 6).toNat) dIns).op))))) (M.get (i64.wrap ((i64.wrap ((i64.wrap (16+(M.get 7)))-(eP ((code.getD ((M.get 6).toNat) dIns).op))))+1))) ((M.set 8 (i64.wrap ((M.get 8)-1))).set 6 (i64.wrap ((M.get 6)+1)))).em)]) (H':=(ap [] [T14])) ?_;refine⟨T14,rfl,?_⟩;have hr:dZ code n M:=⟨h2,h3,h4,h5⟩;refine⟨?_,?_⟩
        ·simp only[ak,bz,if_pos hr,b7,bJ,eo,ep,dJ,br,if_pos h8,if_pos TZ,if_neg SY];exact Vx.weak (by omega)
        ·first|(simp only[ak,bz,if_pos hr,b7,bJ,eo,ep,dJ,br,if_pos h8,if_pos TZ,if_neg SY];try rfl;done)
      ·refine ae 8 [] λ _=>aaj [] [0] (aj 7 (i64.wrap ((i64.wrap ((M.get 7)-(eP ((code.getD ((M.get 6).toNat) dIns).op))))+(eQ ((code.getD ((M.get 6).toNat) dIns).op)))) No) ?_;rintro _ VB Xe;refine ae 9 ([.own 1]++ow 4 16++(aab 3)) λ _=>aaj [] [0] (jV mb (((M.set 8 (i64.wrap ((M.get 8)-1))).set 6 (i64.wrap ((M.get 6)+1))).set 7 (i64.wrap ((i64.wrap ((M.get 7)-(eP ((code.getD ((M.get 6).toNat) dIns).op))))+(eQ ((code.getD ((M.get 6).toNat) dIns).op))))) (k+1) VB S ((code.getD ((M.get 6).toNat) dIns).op) ((code.getD ((M.get 6).toNat) dIns).n) (M.get (i64.wrap ((i64.wrap (16+(M.get 7)))-(eP ((code.getD ((M.get 6).toNat) dIns).op))))) (M.get (i64.wrap ((i64.wrap ((i64.wrap (16+(M.get 7)))-(eP ((code.getD ((M.get 6).toNat) dIns).op))))+1))) _ Xe hS (by assumption)) ?_;rintro _ T21 ⟨Ya,rfl⟩;refine ae 16 [.own 2,.own 2,.own 2,.own 2] λ _=>aam (eQ ((code.getD ((M.get 6).toNat) dIns).op)>0) 116 (λ h23=>?_) λ h23=>?_
       ·refine ae 8 [] λ _=>aaj [] [0] (aj (i64.wrap ((i64.wrap (16+(M.get 7)))-(eP ((code.getD ((M.get 6).toNat) dIns).op)))) ((aC S ((code.getD ((M.get 6).toNat) dIns).op) ((code.getD ((M.get 6).toNat) dIns).n) (M.get (i64.wrap ((i64.wrap (16+(M.get 7)))-(eP ((code.getD ((M.get 6).toNat) dIns).op))))) (M.get (i64.wrap ((i64.wrap ((i64.wrap (16+(M.get 7)))-(eP ((code.getD ((M.get 6).toNat) dIns).op))))+1))) (((M.set 8 (i64.wrap ((M.get 8)-1))).set 6 (i64.wrap ((M.get 6)+1))).set 7 (i64.wrap ((i64.wrap ((M.get 7)-(eP ((code.getD ((M.get 6).toNat) dIns).op))))+(eQ ((code.getD ((M.get 6).toNat) dIns).op)))))).v) Ya) ?_;rintro _ Y1 Xb;refine ae 3 [] λ _=>aal [6] [0,1,3,4]<|ag [0,1,3,4] [0,3,4,1,2,5] [.own 2,.own 2,.own 2,.own 2,.own 1]<|aae 6 (aag [0,1,3,4] [.own 2,.own 2,.own 2,.own 2] λ _=>?_);refine ag [0,1,3,4] [7] []<|aad<|ae 1 [] λ _=>aaq [.own 2,.own 2,.own 2,.own 2] [] [0] (v:=.tuple #[.bool (decide ((code.getD ((M.get 6).toNat) dIns).op=21)),.agg (aaa (aC S ((code.getD ((M.get 6).toNat) dIns).op) ((code.getD ((M.get 6).toNat) dIns).n) (M.get (i64.wrap ((i64.wrap (16+(M.get 7)))-(eP ((code.getD ((M.get 6).toNat) dIns).op))))) (M.get (i64.wrap ((i64.wrap ((i64.wrap (16+(M.get 7)))-(eP ((code.getD ((M.get 6).toNat) dIns).op))))+1))) (((M.set 8 (i64.wrap ((M.get 8)-1))).set 6 (i64.wrap ((M.get 6)+1))).set 7 (i64.wrap ((i64.wrap ((M.get 7)-(eP ((code.getD ((M.get 6).toNat) dIns).op))))+(eQ ((code.getD ((M.get 6).toNat) dIns).op)))))).e).toArray,.bool ((aC S ((code.getD ((M.get 6).toNat) dIns).op) ((code.getD ((M.get 6).toNat) dIns).n) (M.get (i64.wrap ((i64.wrap (16+(M.get 7)))-(eP ((code.getD ((M.get 6).toNat) dIns).op))))) (M.get (i64.wrap ((i64.wrap ((i64.wrap (16+(M.get 7)))-(eP ((code.getD ((M.get 6).toNat) dIns).op))))+1))) (((M.set 8 (i64.wrap ((M.get 8)-1))).set 6 (i64.wrap ((M.get 6)+1))).set 7 (i64.wrap ((i64.wrap ((M.get 7)-(eP ((code.getD ((M.get 6).toNat) dIns).op))))+(eQ ((code.getD ((M.get 6).toNat) dIns).op)))))).em)]) (H':=(ap [] [Y1])) ?_;refine⟨Y1,rfl,?_⟩;have hr:dZ code n M:=⟨h2,h3,h4,h5⟩;refine⟨?_,?_⟩
        ·simp only[ak,bz,if_pos hr,b7,bJ,eo,ep,dJ,br,if_pos h8,if_neg TZ,if_pos h23];exact Xb.weak (by omega)
        ·first|(simp only[ak,bz,if_pos hr,b7,bJ,eo,ep,dJ,br,if_pos h8,if_neg TZ,if_pos h23];try rfl;done)
       ·refine ae 4 [] λ _=>aal [6] [0,1,3,4]<|ag [0,1,3,4] [0,3,4,1,2,5] [.own 2,.own 2,.own 2,.own 2,.own 1]<|aae 6 (aag [0,1,3,4] [.own 2,.own 2,.own 2,.own 2] λ _=>?_);refine ag [0,1,3,4] [7] []<|aad<|ae 1 [] λ _=>aaq [.own 2,.own 2,.own 2,.own 2] [] [0] (v:=.tuple #[.bool (decide ((code.getD ((M.get 6).toNat) dIns).op=21)),.agg (aaa (aC S ((code.getD ((M.get 6).toNat) dIns).op) ((code.getD ((M.get 6).toNat) dIns).n) (M.get (i64.wrap ((i64.wrap (16+(M.get 7)))-(eP ((code.getD ((M.get 6).toNat) dIns).op))))) (M.get (i64.wrap ((i64.wrap ((i64.wrap (16+(M.get 7)))-(eP ((code.getD ((M.get 6).toNat) dIns).op))))+1))) (((M.set 8 (i64.wrap ((M.get 8)-1))).set 6 (i64.wrap ((M.get 6)+1))).set 7 (i64.wrap ((i64.wrap ((M.get 7)-(eP ((code.getD ((M.get 6).toNat) dIns).op))))+(eQ ((code.getD ((M.get 6).toNat) dIns).op)))))).e).toArray,.bool ((aC S ((code.getD ((M.get 6).toNat) dIns).op) ((code.getD ((M.get 6).toNat) dIns).n) (M.get (i64.wrap ((i64.wrap (16+(M.get 7)))-(eP ((code.getD ((M.get 6).toNat) dIns).op))))) (M.get (i64.wrap ((i64.wrap ((i64.wrap (16+(M.get 7)))-(eP ((code.getD ((M.get 6).toNat) dIns).op))))+1))) (((M.set 8 (i64.wrap ((M.get 8)-1))).set 6 (i64.wrap ((M.get 6)+1))).set 7 (i64.wrap ((i64.wrap ((M.get 7)-(eP ((code.getD ((M.get 6).toNat) dIns).op))))+(eQ ((code.getD ((M.get 6).toNat) dIns).op)))))).em)]) (H':=(ap [] [T21])) ?_;refine⟨T21,rfl,?_⟩;have hr:dZ code n M:=⟨h2,h3,h4,h5⟩;refine⟨?_,?_⟩
        ·simp only[ak,bz,if_pos hr,b7,bJ,eo,ep,dJ,br,if_pos h8,if_neg TZ,if_neg h23];exact Ya.weak (by omega)
        ·first|(simp only[ak,bz,if_pos hr,b7,bJ,eo,ep,dJ,br,if_pos h8,if_neg TZ,if_neg h23];try rfl;done)
     ·refine ae 9 [] λ _=>aam (eP ((code.getD ((M.get 6).toNat) dIns).op)=1) 76 (λ S8=>?_) λ S8=>?_
      ·refine ae 11 [] λ _=>aai (av (i64.wrap ((i64.wrap (16+(M.get 7)))-(eP ((code.getD ((M.get 6).toNat) dIns).op)))) hM (ar 0))<|ae 12 [.own 0] λ _=>aaj [] [0] (aj 8 (i64.wrap ((M.get 8)-1)) hM) ?_;rintro _ VM TU;refine ae 7 [] λ _=>aaj [] [0] (aj 6 (i64.wrap ((M.get 6)+1)) TU) ?_;rintro _ XF TQ;refine ae 10 [] λ _=>aan (eP ((code.getD ((M.get 6).toNat) dIns).op)=eQ ((code.getD ((M.get 6).toNat) dIns).op)) 97 (λ Vz=>?_) λ Vz=>?_
       ·refine ae 10 ([.own 1]++ow 4 16++(aab 3)) λ _=>aaj [] [0] (jV mb ((M.set 8 (i64.wrap ((M.get 8)-1))).set 6 (i64.wrap ((M.get 6)+1))) (k+2) XF S ((code.getD ((M.get 6).toNat) dIns).op) ((code.getD ((M.get 6).toNat) dIns).n) (M.get (i64.wrap ((i64.wrap (16+(M.get 7)))-(eP ((code.getD ((M.get 6).toNat) dIns).op))))) 0 _ TQ hS (by assumption)) ?_;rintro _ YZ ⟨V3,rfl⟩;refine ae 16 [.own 2,.own 2,.own 2,.own 2] λ _=>aam (eQ ((code.getD ((M.get 6).toNat) dIns).op)>0) 116 (λ Yk=>?_) λ Yk=>?_
        ·refine ae 8 [] λ _=>aaj [] [0] (aj (i64.wrap ((i64.wrap (16+(M.get 7)))-(eP ((code.getD ((M.get 6).toNat) dIns).op)))) ((aC S ((code.getD ((M.get 6).toNat) dIns).op) ((code.getD ((M.get 6).toNat) dIns).n) (M.get (i64.wrap ((i64.wrap (16+(M.get 7)))-(eP ((code.getD ((M.get 6).toNat) dIns).op))))) 0 ((M.set 8 (i64.wrap ((M.get 8)-1))).set 6 (i64.wrap ((M.get 6)+1)))).v) V3) ?_;rintro _ T35 Xa;refine ae 3 [] λ _=>aal [6] [0,1,3,4]<|ag [0,1,3,4] [0,3,4,1,2,5] [.own 2,.own 2,.own 2,.own 2,.own 1]<|aae 6 (aag [0,1,3,4] [.own 2,.own 2,.own 2,.own 2] λ _=>?_);refine ag [0,1,3,4] [7] []<|aad<|ae 1 [] λ _=>aaq [.own 2,.own 2,.own 2,.own 2] [] [0] (v:=.tuple #[.bool (decide ((code.getD ((M.get 6).toNat) dIns).op=21)),.agg (aaa (aC S ((code.getD ((M.get 6).toNat) dIns).op) ((code.getD ((M.get 6).toNat) dIns).n) (M.get (i64.wrap ((i64.wrap (16+(M.get 7)))-(eP ((code.getD ((M.get 6).toNat) dIns).op))))) 0 ((M.set 8 (i64.wrap ((M.get 8)-1))).set 6 (i64.wrap ((M.get 6)+1)))).e).toArray,.bool ((aC S ((code.getD ((M.get 6).toNat) dIns).op) ((code.getD ((M.get 6).toNat) dIns).n) (M.get (i64.wrap ((i64.wrap (16+(M.get 7)))-(eP ((code.getD ((M.get 6).toNat) dIns).op))))) 0 ((M.set 8 (i64.wrap ((M.get 8)-1))).set 6 (i64.wrap ((M.get 6)+1)))).em)]) (H':=(ap [] [T35])) ?_;refine⟨T35,rfl,?_⟩;have hr:dZ code n M:=⟨h2,h3,h4,h5⟩;refine⟨?_,?_⟩
         ·simp only[ak,bz,if_pos hr,b7,bJ,eo,ep,dJ,br,if_neg h8,if_pos S8,if_pos Vz,if_pos Yk];exact Xa.weak (by omega)
         ·first|(simp only[ak,bz,if_pos hr,b7,bJ,eo,ep,dJ,br,if_neg h8,if_pos S8,if_pos Vz,if_pos Yk];try rfl;done)
        ·refine ae 4 [] λ _=>aal [6] [0,1,3,4]<|ag [0,1,3,4] [0,3,4,1,2,5] [.own 2,.own 2,.own 2,.own 2,.own 1]<|aae 6 (aag [0,1,3,4] [.own 2,.own 2,.own 2,.own 2] λ _=>?_);refine ag [0,1,3,4] [7] []<|aad<|ae 1 [] λ _=>aaq [.own 2,.own 2,.own 2,.own 2] [] [0] (v:=.tuple #[.bool (decide ((code.getD ((M.get 6).toNat) dIns).op=21)),.agg (aaa (aC S ((code.getD ((M.get 6).toNat) dIns).op) ((code.getD ((M.get 6).toNat) dIns).n) (M.get (i64.wrap ((i64.wrap (16+(M.get 7)))-(eP ((code.getD ((M.get 6).toNat) dIns).op))))) 0 ((M.set 8 (i64.wrap ((M.get 8)-1))).set 6 (i64.wrap ((M.get 6)+1)))).e).toArray,.bool ((aC S ((code.getD ((M.get 6).toNat) dIns).op) ((code.getD ((M.get 6).toNat) dIns).n) (M.get (i64.wrap ((i64.wrap (16+(M.get 7)))-(eP ((code.getD ((M.get 6).toNat) dIns).op))))) 0 ((M.set 8 (i64.wrap ((M.get 8)-1))).set 6 (i64.wrap ((M.get 6)+1)))).em)]) (H':=(ap [] [YZ])) ?_;refine⟨YZ,rfl,?_⟩;have hr:dZ code n M:=⟨h2,h3,h4,h5⟩;refine⟨?_,?_⟩
         ·simp only[ak,bz,if_pos hr,b7,bJ,eo,ep,dJ,br,if_neg h8,if_pos S8,if_pos Vz,if_neg Yk];exact V3.weak (by omega)
         ·first|(simp only[ak,bz,if_pos hr,b7,bJ,eo,ep,dJ,br,if_neg h8,if_pos S8,if_pos Vz,if_neg Yk];try rfl;done)
       ·refine ae 8 [] λ _=>aaj [] [0] (aj 7 (i64.wrap ((i64.wrap ((M.get 7)-(eP ((code.getD ((M.get 6).toNat) dIns).op))))+(eQ ((code.getD ((M.get 6).toNat) dIns).op)))) TQ) ?_;rintro _ T37 W_;refine ae 9 ([.own 1]++ow 4 16++(aab 3)) λ _=>aaj [] [0] (jV mb (((M.set 8 (i64.wrap ((M.get 8)-1))).set 6 (i64.wrap ((M.get 6)+1))).set 7 (i64.wrap ((i64.wrap ((M.get 7)-(eP ((code.getD ((M.get 6).toNat) dIns).op))))+(eQ ((code.getD ((M.get 6).toNat) dIns).op))))) (k+1) T37 S ((code.getD ((M.get 6).toNat) dIns).op) ((code.getD ((M.get 6).toNat) dIns).n) (M.get (i64.wrap ((i64.wrap (16+(M.get 7)))-(eP ((code.getD ((M.get 6).toNat) dIns).op))))) 0 _ W_ hS (by assumption)) ?_;rintro _ Xs ⟨Uw,rfl⟩;refine ae 16 [.own 2,.own 2,.own 2,.own 2] λ _=>aam (eQ ((code.getD ((M.get 6).toNat) dIns).op)>0) 116 (λ S6=>?_) λ S6=>?_
        ·refine ae 8 [] λ _=>aaj [] [0] (aj (i64.wrap ((i64.wrap (16+(M.get 7)))-(eP ((code.getD ((M.get 6).toNat) dIns).op)))) ((aC S ((code.getD ((M.get 6).toNat) dIns).op) ((code.getD ((M.get 6).toNat) dIns).n) (M.get (i64.wrap ((i64.wrap (16+(M.get 7)))-(eP ((code.getD ((M.get 6).toNat) dIns).op))))) 0 (((M.set 8 (i64.wrap ((M.get 8)-1))).set 6 (i64.wrap ((M.get 6)+1))).set 7 (i64.wrap ((i64.wrap ((M.get 7)-(eP ((code.getD ((M.get 6).toNat) dIns).op))))+(eQ ((code.getD ((M.get 6).toNat) dIns).op)))))).v) Uw) ?_;rintro _ YX W9;refine ae 3 [] λ _=>aal [6] [0,1,3,4]<|ag [0,1,3,4] [0,3,4,1,2,5] [.own 2,.own 2,.own 2,.own 2,.own 1]<|aae 6 (aag [0,1,3,4] [.own 2,.own 2,.own 2,.own 2] λ _=>?_);refine ag [0,1,3,4] [7] []<|aad<|ae 1 [] λ _=>aaq [.own 2,.own 2,.own 2,.own 2] [] [0] (v:=.tuple #[.bool (decide ((code.getD ((M.get 6).toNat) dIns).op=21)),.agg (aaa (aC S ((code.getD ((M.get 6).toNat) dIns).op) ((code.getD ((M.get 6).toNat) dIns).n) (M.get (i64.wrap ((i64.wrap (16+(M.get 7)))-(eP ((code.getD ((M.get 6).toNat) dIns).op))))) 0 (((M.set 8 (i64.wrap ((M.get 8)-1))).set 6 (i64.wrap ((M.get 6)+1))).set 7 (i64.wrap ((i64.wrap ((M.get 7)-(eP ((code.getD ((M.get 6).toNat) dIns).op))))+(eQ ((code.getD ((M.get 6).toNat) dIns).op)))))).e).toArray,.bool ((aC S ((code.getD ((M.get 6).toNat) dIns).op) ((code.getD ((M.get 6).toNat) dIns).n) (M.get (i64.wrap ((i64.wrap (16+(M.get 7)))-(eP ((code.getD ((M.get 6).toNat) dIns).op))))) 0 (((M.set 8 (i64.wrap ((M.get 8)-1))).set 6 (i64.wrap ((M.get 6)+1))).set 7 (i64.wrap ((i64.wrap ((M.get 7)-(eP ((code.getD ((M.get 6).toNat) dIns).op))))+(eQ ((code.getD ((M.get 6).toNat) dIns).op)))))).em)]) (H':=(ap [] [YX])) ?_;refine⟨YX,rfl,?_⟩;have hr:dZ code n M:=⟨h2,h3,h4,h5⟩;refine⟨?_,?_⟩
         ·simp only[ak,bz,if_pos hr,b7,bJ,eo,ep,dJ,br,if_neg h8,if_pos S8,if_neg Vz,if_pos S6];exact W9.weak (by omega)
         ·first|(simp only[ak,bz,if_pos hr,b7,bJ,eo,ep,dJ,br,if_neg h8,if_pos S8,if_neg Vz,if_pos S6];try rfl;done)
        ·refine ae 4 [] λ _=>aal [6] [0,1,3,4]<|ag [0,1,3,4] [0,3,4,1,2,5] [.own 2,.own 2,.own 2,.own 2,.own 1]<|aae 6 (aag [0,1,3,4] [.own 2,.own 2,.own 2,.own 2] λ _=>?_);refine ag [0,1,3,4] [7] []<|aad<|ae 1 [] λ _=>aaq [.own 2,.own 2,.own 2,.own 2] [] [0] (v:=.tuple #[.bool (decide ((code.getD ((M.get 6).toNat) dIns).op=21)),.agg (aaa (aC S ((code.getD ((M.get 6).toNat) dIns).op) ((code.getD ((M.get 6).toNat) dIns).n) (M.get (i64.wrap ((i64.wrap (16+(M.get 7)))-(eP ((code.getD ((M.get 6).toNat) dIns).op))))) 0 (((M.set 8 (i64.wrap ((M.get 8)-1))).set 6 (i64.wrap ((M.get 6)+1))).set 7 (i64.wrap ((i64.wrap ((M.get 7)-(eP ((code.getD ((M.get 6).toNat) dIns).op))))+(eQ ((code.getD ((M.get 6).toNat) dIns).op)))))).e).toArray,.bool ((aC S ((code.getD ((M.get 6).toNat) dIns).op) ((code.getD ((M.get 6).toNat) dIns).n) (M.get (i64.wrap ((i64.wrap (16+(M.get 7)))-(eP ((code.getD ((M.get 6).toNat) dIns).op))))) 0 (((M.set 8 (i64.wrap ((M.get 8)-1))).set 6 (i64.wrap ((M.get 6)+1))).set 7 (i64.wrap ((i64.wrap ((M.get 7)-(eP ((code.getD ((M.get 6).toNat) dIns).op))))+(eQ ((code.getD ((M.get 6).toNat) dIns).op)))))).em)]) (H':=(ap [] [Xs])) ?_;refine⟨Xs,rfl,?_⟩;have hr:dZ code n M:=⟨h2,h3,h4,h5⟩;refine⟨?_,?_⟩
         ·simp only[ak,bz,if_pos hr,b7,bJ,eo,ep,dJ,br,if_neg h8,if_pos S8,if_neg Vz,if_neg S6];exact Uw.weak (by omega)
         ·first|(simp only[ak,bz,if_pos hr,b7,bJ,eo,ep,dJ,br,if_neg h8,if_pos S8,if_neg Vz,if_neg S6];try rfl;done)
      ·refine ae 15 [] λ _=>aaj [] [0] (aj 8 (i64.wrap ((M.get 8)-1)) hM) ?_;rintro _ T44 W8;refine ae 7 [] λ _=>aaj [] [0] (aj 6 (i64.wrap ((M.get 6)+1)) W8) ?_;rintro _ T46 ac6;refine ae 10 [] λ _=>aan (eP ((code.getD ((M.get 6).toNat) dIns).op)=eQ ((code.getD ((M.get 6).toNat) dIns).op)) 97 (λ U9=>?_) λ U9=>?_
       ·refine ae 10 ([.own 1]++ow 4 16++(aab 3)) λ _=>aaj [] [0] (jV mb ((M.set 8 (i64.wrap ((M.get 8)-1))).set 6 (i64.wrap ((M.get 6)+1))) (k+2) T46 S ((code.getD ((M.get 6).toNat) dIns).op) ((code.getD ((M.get 6).toNat) dIns).n) 0 0 _ ac6 hS (by assumption)) ?_;rintro _ Yn ⟨Uv,rfl⟩;refine ae 16 [.own 2,.own 2,.own 2,.own 2] λ _=>aam (eQ ((code.getD ((M.get 6).toNat) dIns).op)>0) 116 (λ V6=>?_) λ V6=>?_
        ·refine ae 8 [] λ _=>aaj [] [0] (aj (i64.wrap ((i64.wrap (16+(M.get 7)))-(eP ((code.getD ((M.get 6).toNat) dIns).op)))) ((aC S ((code.getD ((M.get 6).toNat) dIns).op) ((code.getD ((M.get 6).toNat) dIns).n) 0 0 ((M.set 8 (i64.wrap ((M.get 8)-1))).set 6 (i64.wrap ((M.get 6)+1)))).v) Uv) ?_;rintro _ XE W7;refine ae 3 [] λ _=>aal [6] [0,1,3,4]<|ag [0,1,3,4] [0,3,4,1,2,5] [.own 2,.own 2,.own 2,.own 2,.own 1]<|aae 6 (aag [0,1,3,4] [.own 2,.own 2,.own 2,.own 2] λ _=>?_);refine ag [0,1,3,4] [7] []<|aad<|ae 1 [] λ _=>aaq [.own 2,.own 2,.own 2,.own 2] [] [0] (v:=.tuple #[.bool (decide ((code.getD ((M.get 6).toNat) dIns).op=21)),.agg (aaa (aC S ((code.getD ((M.get 6).toNat) dIns).op) ((code.getD ((M.get 6).toNat) dIns).n) 0 0 ((M.set 8 (i64.wrap ((M.get 8)-1))).set 6 (i64.wrap ((M.get 6)+1)))).e).toArray,.bool ((aC S ((code.getD ((M.get 6).toNat) dIns).op) ((code.getD ((M.get 6).toNat) dIns).n) 0 0 ((M.set 8 (i64.wrap ((M.get 8)-1))).set 6 (i64.wrap ((M.get 6)+1)))).em)]) (H':=(ap [] [XE])) ?_;refine⟨XE,rfl,?_⟩;have hr:dZ code n M:=⟨h2,h3,h4,h5⟩;refine⟨?_,?_⟩
         ·simp only[ak,bz,if_pos hr,b7,bJ,eo,ep,dJ,br,if_neg h8,if_neg S8,if_pos U9,if_pos V6];exact W7.weak (by omega)
         ·first|(simp only[ak,bz,if_pos hr,b7,bJ,eo,ep,dJ,br,if_neg h8,if_neg S8,if_pos U9,if_pos V6];try rfl;done)
        ·refine ae 4 [] λ _=>aal [6] [0,1,3,4]<|ag [0,1,3,4] [0,3,4,1,2,5] [.own 2,.own 2,.own 2,.own 2,.own 1]<|aae 6 (aag [0,1,3,4] [.own 2,.own 2,.own 2,.own 2] λ _=>?_);refine ag [0,1,3,4] [7] []<|aad<|ae 1 [] λ _=>aaq [.own 2,.own 2,.own 2,.own 2] [] [0] (v:=.tuple #[.bool (decide ((code.getD ((M.get 6).toNat) dIns).op=21)),.agg (aaa (aC S ((code.getD ((M.get 6).toNat) dIns).op) ((code.getD ((M.get 6).toNat) dIns).n) 0 0 ((M.set 8 (i64.wrap ((M.get 8)-1))).set 6 (i64.wrap ((M.get 6)+1)))).e).toArray,.bool ((aC S ((code.getD ((M.get 6).toNat) dIns).op) ((code.getD ((M.get 6).toNat) dIns).n) 0 0 ((M.set 8 (i64.wrap ((M.get 8)-1))).set 6 (i64.wrap ((M.get 6)+1)))).em)]) (H':=(ap [] [Yn])) ?_;refine⟨Yn,rfl,?_⟩;have hr:dZ code n M:=⟨h2,h3,h4,h5⟩;refine⟨?_,?_⟩
         ·simp only[ak,bz,if_pos hr,b7,bJ,eo,ep,dJ,br,if_neg h8,if_neg S8,if_pos U9,if_neg V6];exact Uv.weak (by omega)
         ·first|(simp only[ak,bz,if_pos hr,b7,bJ,eo,ep,dJ,br,if_neg h8,if_neg S8,if_pos U9,if_neg V6];try rfl;done)
       ·refine ae 8 [] λ _=>aaj [] [0] (aj 7 (i64.wrap ((i64.wrap ((M.get 7)-(eP ((code.getD ((M.get 6).toNat) dIns).op))))+(eQ ((code.getD ((M.get 6).toNat) dIns).op)))) ac6) ?_;rintro _ T54 W6;refine ae 9 ([.own 1]++ow 4 16++(aab 3)) λ _=>aaj [] [0] (jV mb (((M.set 8 (i64.wrap ((M.get 8)-1))).set 6 (i64.wrap ((M.get 6)+1))).set 7 (i64.wrap ((i64.wrap ((M.get 7)-(eP ((code.getD ((M.get 6).toNat) dIns).op))))+(eQ ((code.getD ((M.get 6).toNat) dIns).op))))) (k+1) T54 S ((code.getD ((M.get 6).toNat) dIns).op) ((code.getD ((M.get 6).toNat) dIns).n) 0 0 _ W6 hS (by assumption)) ?_;rintro _ T56 ⟨X7,rfl⟩;refine ae 16 [.own 2,.own 2,.own 2,.own 2] λ _=>aam (eQ ((code.getD ((M.get 6).toNat) dIns).op)>0) 116 (λ h58=>?_) λ h58=>?_
        ·refine ae 8 [] λ _=>aaj [] [0] (aj (i64.wrap ((i64.wrap (16+(M.get 7)))-(eP ((code.getD ((M.get 6).toNat) dIns).op)))) ((aC S ((code.getD ((M.get 6).toNat) dIns).op) ((code.getD ((M.get 6).toNat) dIns).n) 0 0 (((M.set 8 (i64.wrap ((M.get 8)-1))).set 6 (i64.wrap ((M.get 6)+1))).set 7 (i64.wrap ((i64.wrap ((M.get 7)-(eP ((code.getD ((M.get 6).toNat) dIns).op))))+(eQ ((code.getD ((M.get 6).toNat) dIns).op)))))).v) X7) ?_;rintro _ T59 Z6;refine ae 3 [] λ _=>aal [6] [0,1,3,4]<|ag [0,1,3,4] [0,3,4,1,2,5] [.own 2,.own 2,.own 2,.own 2,.own 1]<|aae 6 (aag [0,1,3,4] [.own 2,.own 2,.own 2,.own 2] λ _=>?_);refine ag [0,1,3,4] [7] []<|aad<|ae 1 [] λ _=>aaq [.own 2,.own 2,.own 2,.own 2] [] [0] (v:=.tuple #[.bool (decide ((code.getD ((M.get 6).toNat) dIns).op=21)),.agg (aaa (aC S ((code.getD ((M.get 6).toNat) dIns).op) ((code.getD ((M.get 6).toNat) dIns).n) 0 0 (((M.set 8 (i64.wrap ((M.get 8)-1))).set 6 (i64.wrap ((M.get 6)+1))).set 7 (i64.wrap ((i64.wrap ((M.get 7)-(eP ((code.getD ((M.get 6).toNat) dIns).op))))+(eQ ((code.getD ((M.get 6).toNat) dIns).op)))))).e).toArray,.bool ((aC S ((code.getD ((M.get 6).toNat) dIns).op) ((code.getD ((M.get 6).toNat) dIns).n) 0 0 (((M.set 8 (i64.wrap ((M.get 8)-1))).set 6 (i64.wrap ((M.get 6)+1))).set 7 (i64.wrap ((i64.wrap ((M.get 7)-(eP ((code.getD ((M.get 6).toNat) dIns).op))))+(eQ ((code.getD ((M.get 6).toNat) dIns).op)))))).em)]) (H':=(ap [] [T59])) ?_;refine⟨T59,rfl,?_⟩;have hr:dZ code n M:=⟨h2,h3,h4,h5⟩;refine⟨?_,?_⟩
         ·simp only[ak,bz,if_pos hr,b7,bJ,eo,ep,dJ,br,if_neg h8,if_neg S8,if_neg U9,if_pos h58];exact Z6.weak (by omega)
         ·first|(simp only[ak,bz,if_pos hr,b7,bJ,eo,ep,dJ,br,if_neg h8,if_neg S8,if_neg U9,if_pos h58];try rfl;done)
        ·refine ae 4 [] λ _=>aal [6] [0,1,3,4]<|ag [0,1,3,4] [0,3,4,1,2,5] [.own 2,.own 2,.own 2,.own 2,.own 1]<|aae 6 (aag [0,1,3,4] [.own 2,.own 2,.own 2,.own 2] λ _=>?_);refine ag [0,1,3,4] [7] []<|aad<|ae 1 [] λ _=>aaq [.own 2,.own 2,.own 2,.own 2] [] [0] (v:=.tuple #[.bool (decide ((code.getD ((M.get 6).toNat) dIns).op=21)),.agg (aaa (aC S ((code.getD ((M.get 6).toNat) dIns).op) ((code.getD ((M.get 6).toNat) dIns).n) 0 0 (((M.set 8 (i64.wrap ((M.get 8)-1))).set 6 (i64.wrap ((M.get 6)+1))).set 7 (i64.wrap ((i64.wrap ((M.get 7)-(eP ((code.getD ((M.get 6).toNat) dIns).op))))+(eQ ((code.getD ((M.get 6).toNat) dIns).op)))))).e).toArray,.bool ((aC S ((code.getD ((M.get 6).toNat) dIns).op) ((code.getD ((M.get 6).toNat) dIns).n) 0 0 (((M.set 8 (i64.wrap ((M.get 8)-1))).set 6 (i64.wrap ((M.get 6)+1))).set 7 (i64.wrap ((i64.wrap ((M.get 7)-(eP ((code.getD ((M.get 6).toNat) dIns).op))))+(eQ ((code.getD ((M.get 6).toNat) dIns).op)))))).em)]) (H':=(ap [] [T56])) ?_;refine⟨T56,rfl,?_⟩;have hr:dZ code n M:=⟨h2,h3,h4,h5⟩;refine⟨?_,?_⟩
         ·simp only[ak,bz,if_pos hr,b7,bJ,eo,ep,dJ,br,if_neg h8,if_neg S8,if_neg U9,if_neg h58];exact X7.weak (by omega)
         ·first|(simp only[ak,bz,if_pos hr,b7,bJ,eo,ep,dJ,br,if_neg h8,if_neg S8,if_neg U9,if_neg h58];try rfl;done)
    ·refine ae 9 (aab 4) λ _=>aaq (aab 4) [] [0] (v:=.tuple #[.bool true,.agg #[vI 0,vI 0,vI 0,vI 0],.bool false]) (H':=(ap [] [T])) ?_;refine⟨T,rfl,?_⟩;have hr:¬ dZ code n M:=λ UQ=>h5 UQ.2.2.2;refine⟨?_,?_⟩
     ·simp only[ak,bz,if_neg hr];exact hM.weak (by omega)
     ·first|(simp only[ak,bz,if_neg hr];try rfl;done)
theorem DI(mb:Nat)(M:MemS)(k:Nat)(T:HL)(S:Setup)(code:List Ins)(A:Option Addr)(cc:Nat)(e0 e1 e2:Int)(F:HL)(hM:MemH mb M (k+6) T) :Sp Tryz.prog 205 #[.iface 113 (vP mb 0),(Setup.v S),.agg #[.slice A 0 cc,vI e0,vI e1,vI e2]] (ap [] [T]) F (λ u H'=>∃x,H'=ap [] [x] /\ (MemH mb ((ak S code 0 M).M) k x /\ u=.tuple #[.bool (bz code 0 M),.agg (aaa (ak S code 0 M).e).toArray,.bool ((ak S code 0 M).em)])):=by
 refine aau Tryz.func205 rfl mn (A:=[]) (Ts:=[T]) rfl λ w0=>?_;refine ae 22 [] λ n1=>aai (av 6 hM (ar 0))<|ae 1 [] λ _=>aai (av 7 hM (ar 0))<|ae 1 [] λ _=>aai (av 8 hM (ar 0))<|ae 11 [] λ _=>aam (M.get 8<1) 29 (λ h2=>?_) λ h2=>?_
 ·refine ae 31 (aab 4) λ _=>aaq (aab 4) [] [0] (v:=.tuple #[.bool true,.agg #[vI 0,vI 0,vI 0,vI 0],.bool false]) (H':=(ap [] [T])) ?_;refine⟨T,rfl,?_⟩;have hr:¬ dZ code 0 M:=λ UQ=>UQ.1 h2;refine⟨?_,?_⟩
  ·simp only[ak,bz,if_neg hr];exact hM.weak (by omega)
  ·first|(simp only[ak,bz,if_neg hr];try rfl;done)
 ·refine ae 4 [] λ _=>aam (M.get 6<0) 33 (λ h3=>?_) λ h3=>?_
  ·refine ae 27 (aab 4) λ _=>aaq (aab 4) [] [0] (v:=.tuple #[.bool true,.agg #[vI 0,vI 0,vI 0,vI 0],.bool false]) (H':=(ap [] [T])) ?_;refine⟨T,rfl,?_⟩;have hr:¬ dZ code 0 M:=λ UQ=>UQ.2.1 h3;refine⟨?_,?_⟩
   ·simp only[ak,bz,if_neg hr];exact hM.weak (by omega)
   ·first|(simp only[ak,bz,if_neg hr];try rfl;done)
  ·refine ae 7 [.own 1] λ _=>aam (M.get 6 >= 0) 40 (λ h4=>?_) λ h4=>?_
   ·refine ae 20 (aab 4) λ _=>aaq (aab 4) [] [0] (v:=.tuple #[.bool true,.agg #[vI 0,vI 0,vI 0,vI 0],.bool false]) (H':=(ap [] [T])) ?_;refine⟨T,rfl,?_⟩;have hr:¬ dZ code 0 M:=λ UQ=>UQ.2.2.1 (by simpa using h4);refine⟨?_,?_⟩
    ·simp only[ak,bz,if_neg hr];exact hM.weak (by omega)
    ·first|(simp only[ak,bz,if_neg hr];try rfl;done)
   ·exact absurd (show M.get 6 >= 0 by omega) h4
theorem iI(mb:Nat)(M:MemS)(k:Nat)(T:HL)(S:Setup)(code:List Ins)(A:Option Addr)(n cc:Nat)(e0 e1 e2:Int)(F:HL)(hM:MemH mb M (k+6) T)(hS:SetN S)(hE:cM F)(hc:CodeIn F code A n):Sp Tryz.prog 205 #[.iface 113 (vP mb 0),(Setup.v S),.agg #[.slice A n cc,vI e0,vI e1,vI e2]] (ap [] [T]) F (λ u H'=>∃x,H'=ap [] [x] /\ (MemH mb (ak S code n M).M k x /\ u=.tuple #[.bool (bz code n M),.agg (aaa (ak S code n M).e).toArray,.bool ((ak S code n M).em)])):=by
 cases hc with
 | nil=>exact DI mb M k T S code A cc e0 e1 e2 F hM
 | mk b R n h h1 h2=>exact zU mb M k T S code b R n cc e0 e1 e2 F hM hS hE h h1 h2
end Go.Proofs.YtdppjkjbghbnjaaGreatDoor
