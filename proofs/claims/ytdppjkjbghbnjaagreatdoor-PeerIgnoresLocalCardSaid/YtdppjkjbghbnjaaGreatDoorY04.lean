import Derived.Test.YtdppjkjbghbnjaaGreatDoorY03
set_option maxHeartbeats 4000000
set_option maxRecDepth 100000
set_option linter.all false
namespace Go.Proofs.YtdppjkjbghbnjaaGreatDoor
open IntKind
open Go.RowKit
def OA(a b:Int):Int:=u64.wrap ((BitVec.ofInt 64 a ^^^ BitVec.ofInt 64 b).toNat:Int)
def orU(a b:Int):Int:=u64.wrap ((BitVec.ofInt 64 a ||| BitVec.ofInt 64 b).toNat:Int)
def zx(a b:Int):Int:=OA (u64.wrap (OA a b*11400714819323198485)) ((u64.wrap (OA a b*11400714819323198485)).fdiv 4294967296)
def wh(b:ByteArray)(i:Nat):Nat -> Int
 | 0=>0
 | k+1=>orU (wh b i k) (u64.wrap (u64.wrap (HO b (8*i+k))*2 ^ min (8*(k:Int)).toNat 64))
def wk(b:ByteArray)(i:Nat):Nat:=min 8 (b.size-8*i)
def wn(b:ByteArray):Nat:=(b.size+7) / 8
def jn(b:ByteArray):List Int:=(List.range (wn b)).map λ i=>wh b i (wk b i)
theorem Cs(b:ByteArray):(jn b).length=wn b:=by simp[jn]
theorem tG{b:ByteArray}{i:Nat}(h:8*i<b.size):(jn b)[i]?=some (wh b i (wk b i)):=by
 have:i<wn b:=by unfold wn;omega
 simp[jn,this]
def kY(b:ByteArray):Nat -> Int
 | 0=>0
 | m+1=>zx (kY b m) ((jn b).getD m 0)
def tH(b:ByteArray)(n:Int):Int:=zx (zx (kY b (jn b).length) (u64.wrap (b.size:Int))) (u64.wrap n)
def Iz(s:Int)(xs:List Int):Nat -> Int
 | 0=>s
 | k+1=>zx (Iz s xs k) (u64.wrap (xs.getD k 0))
def OB(b:ByteArray)(xs:List Int):Int:=zx (Iz (tH b xs.length) xs xs.length) 0
abbrev QB(x:Int):Array Value:=#[.int .u64 x]
theorem IA{xs:List Int}{i:Nat}{x:Int}(h:xs[i]?=some x):xs.getD i 0=x:=by rw[List.getD_eq_getElem?_getD,h];rfl
theorem pY(a b:Int)(F:HL):Sp Tryz.prog 220 #[.int .u64 a,.int .u64 b] [] F (λ u H'=>u=.int .u64 (zx a b) /\ H'=[]):=by
 refine aav Tryz.func220 rfl mn (A:=[]) (Ts:=[]) rfl λ w0=>?_;refine ae 23 [] λ _=>?_;exact aaq [] [] [] ⟨rfl,rfl⟩
theorem FS(b:ByteArray)(q lp:Nat)(X F:HL)(J:Nat -> HL -> Prop)(Jx:HL -> Prop)(T0:HL)(hb:b.size <= 1000000)(hq:(q,.lit [.string b] 9 (0,0))∈F)(hY:∀i x H Y,(jn b)[i]?=some x -> J i H -> YL Tryz.prog lp (QB x) H (Y++(X++F)) (λ b H'=>(b=true /\ J (i+1) H') \/ (b=false /\ Jx H')))(XI:J 0 T0):Sp Tryz.prog 275 #[.func (.yield lp) #[] #[],vP q 0] (ap [] [T0]) (X++F) (λ _ H'=>J (jn b).length H' \/ Jx H'):=by
 refine aav Tryz.func275 rfl (mc (List.mem_append_right _ hq) mn) (A:=[]) (Ts:=[T0]) rfl λ w0=>?_;refine ae 6 [] λ _=>aao (σ:=Nat × HL) (λ ⟨i,T_⟩=>⟨[(0,.func (.yield lp) #[] #[]),(1,vP q 0),(3,vI (8*(i:Int)))],[],[T_],i <= wn b /\ J i T_,wn b-i⟩) (0,T0) [] [0] (⟨Nat.zero_le _,XI⟩) ?_;rintro⟨i,T_⟩ ⟨Xc,UW⟩ Tw;refine ae 9 [.ro 0] λ _=>aam (8*(i:Int)<((b).size:Int)) 9 (λ h3=>?_) λ h3=>?_
 ·refine ae 17 [] λ _=>aao (σ:=Nat) (λ k=>⟨[(0,.func (.yield lp) #[] #[]),(1,vP q 0),(3,vI (8*(i:Int))),(4,.int .u64 (wh b i k)),(5,vI (k:Int))],[],[T_],k <= 8 /\ 8*i+k <= b.size,8-k⟩) 0 [] [0] (⟨by omega,by omega⟩) ?_;rintro k ⟨X8,ar5⟩ mt5;refine ae 6 [] λ _=>aam ((k:Int)<8) 14 (λ h6=>?_) λ h6=>?_
  ·refine ah 9 [.nw,.ro 0] [aI ((8*(i:Int))+(k:Int))] λ _=>aam ((8*(i:Int))+(k:Int)<((b).size:Int)) 21 (λ h7=>?_) λ h7=>?_
   ·refine ah 26 [.ro 0,.nw,.ix (8*i+k),.nw,.dv,.gen,.nw] [aI ((k:Int)+1),0 <= 8*(k:Int),aI (8*(k:Int)),(8*(i:Int))+(k:Int)=(((8*i+k):Nat):Int) /\ (8*i+k)<(b).size,aI ((8*(i:Int))+(k:Int))] λ _=>?_;refine mt5 (k+1) [] [0] ?_
    try dsimp only
    exact⟨⟨by omega,by omega⟩,by omega⟩
   ·obtain rfl:k=wk b i:=by unfold wk;omega
    refine ae 10 [] λ _=>aat 0 (hY i (wh b i (wk b i)) _ _ (tG (by omega)) UW) ?_;rintro b_ T8 (⟨rfl,hJ9⟩|⟨rfl,hJ9⟩)
    ·refine ah 12 [.gen,.nw] [aI ((8*(i:Int))+8)] λ _=>aC 3 (congrArg (λ v_=>(vI v_:Value)) (show (8*(i:Int)+8)=8*((i+1:Nat):Int) by omega)) ?_;refine Tw (i+1,T8) [] [0] ?_
     try dsimp only
     exact⟨⟨by unfold wn at *;omega,hJ9⟩,by unfold wn at *;omega⟩
    ·refine ae 4 [] λ _=>aaq [] [] [0] (v:=.tuple #[]) (H':=(ap [] [T8])) ?_;rw[aP];exact .inr hJ9
  ·obtain rfl:k=wk b i:=by unfold wk;omega
   refine ae 19 [] λ _=>aat 0 (hY i (wh b i (wk b i)) _ _ (tG (by omega)) UW) ?_;rintro b_ UJ (⟨rfl,afg⟩|⟨rfl,afg⟩)
   ·refine ah 12 [.gen,.nw] [aI ((8*(i:Int))+8)] λ _=>aC 3 (congrArg (λ v_=>(vI v_:Value)) (show (8*(i:Int)+8)=8*((i+1:Nat):Int) by omega)) ?_;refine Tw (i+1,UJ) [] [0] ?_
    try dsimp only
    exact⟨⟨by unfold wn at *;omega,afg⟩,by unfold wn at *;omega⟩
   ·refine ae 4 [] λ _=>aaq [] [] [0] (v:=.tuple #[]) (H':=(ap [] [UJ])) ?_;rw[aP];exact .inr afg
 ·obtain rfl:i=wn b:=by unfold wn at *;omega
  refine ae 5 [] λ _=>aaq [] [] [0] (v:=.tuple #[]) (H':=(ap [] [T_])) ?_;rw[aP];exact .inl (by rw[Cs];exact UW)
theorem IB(b:ByteArray)(q:Nat)(F:HL)(hb:b.size <= 1000000)(hq:(q,.lit [.string b] 9 (0,0))∈F):It Tryz.prog 275 #[vP q 0] F QB (jn b):=by
 intro X l J Jx H0 hY h0;have key:=FS b q l X F J Jx H0 hb hq hY h0;rw[aP] at key;exact key
theorem FT(b:ByteArray)(F:HL):Sp Tryz.prog 253 #[.string b] (ap [] []) F (λ u H'=>∃n:Nat,H'=ap [((n+0),.lit [.string b] 9 (0,0))] [] /\ u=.func (.func 275) #[] #[vP (n+0) 0]):=by
 refine aav Tryz.func253 rfl mn (A:=[]) (Ts:=[]) rfl λ w0=>?_;refine ae 12 [] λ n1=>aaq [] [0] [] (v:=.func (.func 275) #[] #[vP (n1+0) 0]) (H':=(ap [((n1+0),.lit [.string b] 9 (0,0))] [])) ?_;exact⟨_,rfl,rfl⟩
theorem Ct(b:ByteArray)(n:Int)(F:HL)(hb:b.size <= 1000000):Sp Tryz.prog 219 #[.string b,vI n] [] F (λ u H'=>u=.int .u64 (tH b n) /\ H'=[]):=by
 refine Sp.runM Tryz.func219 rfl mn (A:=[]) (Ts:=[]) rfl λ w0=>?_;refine ae 14 [] λ n1=>aaj (Hp:=[]) (Tp:=[]) [] [] (FT b _) ?_;rintro _ m2 rfl;refine ae 3 [] λ _=>RN.range (σ:=Nat) (τ:=Nat × Int) (encs:=λ (x_:Int)=>#[.int .u64 x_]) (xs:=(jn b)) (enters_of Tryz.func275 (by kernel_rfl) rfl) (λ m_=>([((n1+0),.lit [.int .u64 (kY b m_)] 129 (0,0))],[])) (λ i_ m_=>m_=i_) (λ c_ m_=>False) (λ ⟨m_,y_⟩=>⟨[(0,.string b),(1,vI n),(5,vP (n1+0) 0),(6,.int .u64 y_)],[((n1+0),.lit [.int .u64 (kY b m_)] 129 (0,0))],[],True,0⟩) (λ i_ x_ ⟨m_,y_⟩=>m_=i_ /\ y_=x_) 0 rfl [1] [] (IB b (m2+0) _ hb (az 0)) ?_ ?_ ?_ ?_
 ·rintro l_ i_ x_ m_ Y3 w4 hx5 rfl mt6;refine ae 3 [] λ _=>?_;refine mt6 (m_,x_) [0] [] ?_
  try dsimp only
  exact⟨rfl,rfl⟩
 ·rintro l_ i_ x_ ⟨m_,y_⟩ Y7 w8 hx9 ⟨rfl,ey_⟩;refine ae 4 [.own 0] λ _=>aai (pY (kY b m_) y_ _)<|ae 3 [.own 0] λ _=>?_;have e_:kY b (m_+1)=zx (kY b m_) y_:=by rw[kY,ey_,IA hx9]
  refine aah 0 (congrArg (λ v_=>(.lit [.int .u64 v_] 129 (0,0):Blk)) e_.symm)<|RN.rn (m_+1) [0] [] ?_
  try dsimp only
  first|done|rfl
 ·rintro d10 m_  rfl;refine ae 8 [.own 1] λ _=>aai (pY (kY b (jn b).length) (u64.wrap ((b).size:Int)) _)<|ae 2 [] λ _=>aai (pY (zx (kY b (jn b).length) (u64.wrap ((b).size:Int))) (u64.wrap n) _)<|ae 3 [] λ _=>?_;exact RN.retM [d10] [0] [] [] [] ⟨rfl,rfl⟩
 ·exact λ _ _ _ h=>h.elim
theorem IC(b:ByteArray)(xs:List Int)(q c:Nat)(F:HL)(hb:b.size <= 1000000)(hl:xs.length <= c)(TM:xs.length <= 1000000)(hq:(q,.rows 1 c (aB xs) 3 (0,0))∈F):Sp Tryz.prog 177 #[.string b,vS q 0 xs.length c] [] F (λ u H'=>u=.int .u64 (OB b xs) /\ H'=[]):=by
 refine aav Tryz.func177 rfl (mc hq mn) (A:=[]) (Ts:=[]) rfl λ w0=>?_;refine ae 10 [] λ _=>aai (Ct b (xs.length:Int) _ (by assumption))<|ae 12 [] λ _=>aao (σ:=Nat) (λ k=>⟨[(5,.int .u64 (Iz (tH b xs.length) xs k)),(12,vS q 0 xs.length c),(13,vI (xs.length:Int)),(14,vI (k:Int))],[],[],k <= xs.length,xs.length-k⟩) 0 [] [] (Nat.zero_le _) ?_;rintro k hI1 Tw;refine ae 6 [] λ _=>aam ((k:Int)<(xs.length:Int)) 15 (λ h3=>?_) λ h3=>?_
 ·refine ah 16 [.ix k,.rorow 0 k 0] [(0+k*1)=k*1+0 /\ k<c,(k:Int)=((k:Nat):Int) /\ k<xs.length] λ _=>aai (pY (Iz (tH b xs.length) xs k) (u64.wrap (xs.getD k 0)) _)<|ah 8 [.nw] [aI ((k:Int)+1)] λ _=>?_;refine Tw (k+1) [] [] ?_
  try dsimp only
  exact⟨by omega,by omega⟩
 ·obtain rfl:k=xs.length:=by omega
  refine ae 9 [] λ _=>aai (pY (Iz (tH b xs.length) xs xs.length) 0 _)<|ae 3 [] λ _=>?_;exact aaq [] [] [] ⟨rfl,rfl⟩
structure VR where (M:MemS) (v:Int) (e:Eff) (em:Bool)
def pZ:List (Int × Int × Int):=[(0,0,0),(0,1,0),(0,1,16),(1,0,16),(1,1,8),(2,0,8),(0,1,0),(0,1,0),(0,1,0),(2,1,0),(2,1,0),(2,1,0),(2,1,0),(1,1,0),(2,1,0),(2,1,0),(2,1,0),(1,1,0),(0,0,0),(1,0,0),(2,0,0),(0,0,0)]
abbrev eP(op:Int):Int:=(pZ.getD op.toNat (0,0,0)).1
abbrev eQ(op:Int):Int:=(pZ.getD op.toNat (0,0,0)).2.1
abbrev eN(op:Int):Int:=(pZ.getD op.toNat (0,0,0)).2.2
def o8:Nat -> Nat -> Value:=λ i k=>match k with|0=>vI (pZ.getD i (0,0,0)).1|1=>vI (pZ.getD i (0,0,0)).2.1|_=>vI (pZ.getD i (0,0,0)).2.2
def mU(n:Int):Int:=aM n (-2147483647) 2147483647
def jb(b:Bool):Int:=if b=true then 1 else 0
def fU(op n sp:Int):Bool:=if op<1 then false else if op>21 then false else if sp>16 then false else if sp<eP op then false else if bz (bz (sp-eP op)+eQ op)>16 then false else if eN op=0 then true else if n >= 0 then decide (n<eN op) else false
def qd(f v:Int):Int:=if f=0 then aM v (-1048576) 1048576 else if f=1 then aM v (-1048576) 1048576 else if f=2 then aM v (-16384) 16384 else if f=3 then aM v (-16384) 16384 else v
abbrev Sd:ByteArray:=⟨#[101,102,102,101,99,116]⟩
def da(k v:Int)(M:MemS):VR:=if M.get 11 >= 40 then ⟨M,0,bI,false⟩ else ⟨(M.set 12 (bz ((OB Sd [M.get 12,M.get 0,k,v]).fdiv 2))).set 11 (bz (M.get 11+1)),0,⟨M.get 0,M.get 11,k,v⟩,true⟩
def aJ(S:Setup)(op n a b:Int)(M:MemS):VR :=
 if op=1 then ⟨M,n,bI,false⟩ else if op=2 then ⟨M,M.get (bz (32+n)),bI,false⟩ else if op=6 then ⟨M,M.get 9,bI,false⟩ else if op=7 then ⟨M,M.get 10,bI,false⟩ else if op=8 then ⟨M,M.get 0,bI,false⟩
 else if op=9 then ⟨M,mU (bz (a+b)),bI,false⟩ else if op=10 then ⟨M,mU (bz (a-b)),bI,false⟩ else if op=11 then ⟨M,mU (bz (a*b)),bI,false⟩ else if op=12 then ⟨M,if b=0 then 0 else mU (bz (a.tdiv b)),bI,false⟩
 else if op=14 then ⟨M,jb (decide (a<b)),bI,false⟩ else if op=15 then ⟨M,jb (decide (a <= b)),bI,false⟩ else if op=16 then ⟨M,jb (decide (a=b)),bI,false⟩
 else if op=13 then ⟨M,mU (bz (0-a)),bI,false⟩ else if op=17 then ⟨M,jb (decide (a=0)),bI,false⟩
 else if op=3 then ⟨M.set (bz (32+n)) a,0,bI,false⟩ else if op=4 then ⟨M,if af S a >= 0 then M.get (bz (af S a+n)) else 0,bI,false⟩ else if op=5 then ⟨if af S a >= 0 then M.set (bz (af S a+n)) (qd n b) else M,0,bI,false⟩
 else if op=18 then ⟨M.set 6 n,0,bI,false⟩ else if op=19 then ⟨if a=0 then M.set 6 n else M,0,bI,false⟩ else if op=20 then ⟨(da a b M).M,0,(da a b M).e,(da a b M).em⟩ else ⟨M,0,bI,false⟩
def fe(op sp:Int)(M:MemS):Int:=if eP op=2 then M.get (bz (bz (16+sp)-eP op)) else if eP op=1 then M.get (bz (bz (16+sp)-eP op)) else 0
def ff(op sp:Int)(M:MemS):Int:=if eP op=2 then M.get (bz (bz (bz (16+sp)-eP op)+1)) else 0
def d8(op sp pc fuel:Int)(M:MemS):MemS:=if eP op=eQ op then (M.set 8 (bz (fuel-1))).set 6 (bz (pc+1)) else ((M.set 8 (bz (fuel-1))).set 6 (bz (pc+1))).set 7 (bz (bz (sp-eP op)+eQ op))
def bZ(S:Setup)(op n sp pc fuel:Int)(M:MemS):VR:=aJ S op n (fe op sp M) (ff op sp M) (d8 op sp pc fuel M)
def cD(op sp:Int)(r:VR):VR:=if eQ op>0 then ⟨r.M.set (bz (bz (16+sp)-eP op)) r.v,r.v,r.e,r.em⟩ else r
abbrev bE(code:List Ins)(M:MemS):Ins:=code.getD (M.get 6).toNat dIns
def eY(code:List Ins)(n:Nat)(M:MemS):Prop:=¬ M.get 8<1 /\ ¬ M.get 6<0 /\ ¬ M.get 6 >= (n:Int) /\ fU (bE code M).op (bE code M).n (M.get 7)=true
instance (code:List Ins) (n:Nat) (M:MemS):Decidable (eY code n M):=inferInstanceAs (Decidable (_ /\ _))
def ao(S:Setup)(code:List Ins)(n:Nat)(M:MemS):VR:=if eY code n M then cD (bE code M).op (M.get 7) (bZ S (bE code M).op (bE code M).n (M.get 7) (M.get 6) (M.get 8) M) else ⟨M,0,bI,false⟩
def bH(code:List Ins)(n:Nat)(M:MemS):Bool:=if eY code n M then decide ((bE code M).op=21) else true
def aU(e fuel self other:Int)(M:MemS):MemS:=if e<0 then M else ((((M.set 6 e).set 7 0).set 8 fuel).set 9 self).set 10 other
def mI:Enc Ins:=⟨2,λ p k=>match k with|0=>vI p.op|1=>vI p.n|_=>default,dIns⟩
noncomputable def NU:TypeInfo:=match Tryz.prog.info? 231 with | some i=>i | none=>⟨.bool,"",0,0,false,0,0,none,false,#[]⟩
noncomputable def NV:Value:=match NU.zero with|some z=>z|none=>.bool false
theorem IE:EncOk mI Tryz.prog 231 NU NV where
 info:=by kernel_rfl
 zero:=by kernel_rfl
 size:=by kernel_rfl
 zsize:=by kernel_rfl
 zcell:=λ k hk=>by
  have h:∀k<2,NV.cells[k]?=some (mI.cell mI.dflt k):=by intro k hk;(iterate 2 (rcases k with _|k;· kernel_rfl));omega
  exact h k hk
 one:=λ x k=>by unfold mI;dsimp only;split <;> rfl
 bytes:=Nat.le_of_ble_eq_true (by kernel_rfl)
abbrev QC(l:List Ins):Nat -> Nat -> Value:=aL mI l
inductive CodeIn(F:HL)(code:List Ins):Option Addr -> Nat -> Prop
 | nil (A:Option Addr):CodeIn F code A 0
 | mk (b R n:Nat) (h:(b,.rows 2 R (QC code) 231 (0,0))∈F) (hn:n <= R) (hn2:n <= 1000000):CodeIn F code (some ⟨b,0,none⟩) n
theorem CodeIn.up{F X:HL}{code:List Ins}{A:Option Addr}{n:Nat}(h:CodeIn F code A n):CodeIn (X++F) code A n:=by
 cases h with
 | nil=>exact .nil _
 | mk b R n h h1 h2=>exact .mk b R n (List.mem_append_right _ h) h1 h2
abbrev bF(F:HL):Prop:=(1,.rows 3 22 o8 332 (0,0))∈F
theorem qf(n:Int)  (F:HL):Sp Tryz.prog 287 #[vI n] [] F (λ u H'=>u=vI (mU n) /\ H'=[]):=by
 refine aav Tryz.func287 rfl mn (A:=[]) (Ts:=[]) rfl λ w0=>?_;refine ae 8 [] λ _=>aai (cY n (-2147483647) 2147483647  _)<|ae 3 [] λ _=>?_;exact aaq [] [] [] ⟨rfl,rfl⟩
theorem nP(b:Bool)(F:HL):Sp Tryz.prog 292 #[.bool b] [] F (λ u H'=>u=vI (jb b) /\ H'=[]):=by
 refine aav Tryz.func292 rfl mn (A:=[]) (Ts:=[]) rfl λ w0=>?_;refine ae 11 [] λ _=>jB (b) 3 (λ h1=>?_) λ h1=>?_
 ·refine ae 6 [] λ _=>aaq [] [] [] (v:=vI 1) (H':=[]) ?_;refine⟨?_,rfl⟩
  first|(simp only[jb,if_pos h1];try rfl;done)|rfl
 ·refine ae 8 [] λ _=>aaq [] [] [] (v:=vI 0) (H':=[]) ?_;refine⟨?_,rfl⟩
  first|(simp only[jb,if_neg h1];try rfl;done)|rfl
theorem FU(f:Int)(v:Int)  (F:HL):Sp Tryz.prog 300 #[vI f,vI v] [] F (λ u H'=>u=vI (qd f v) /\ H'=[]):=by
 refine aav Tryz.func300 rfl mn (A:=[]) (Ts:=[]) rfl λ w0=>?_;refine ae 19 [] λ _=>aam (f=0) 6 (λ h1=>?_) λ h1=>?_
 ·refine ae 7 [] λ _=>aai (cY v (-1048576) 1048576  _)<|ae 3 [] λ _=>aaq [] [] [] (v:=vI (aM v (-1048576) 1048576)) (H':=[]) ?_;refine⟨?_,rfl⟩
  first|(simp only[qd,if_pos h1];try rfl;done)|rfl
 ·refine ae 6 [] λ _=>aam (f=1) 6 (λ h2=>?_) λ h2=>?_
  ·refine ae 4 [] λ _=>aai (cY v (-1048576) 1048576  _)<|ae 3 [] λ _=>aaq [] [] [] (v:=vI (aM v (-1048576) 1048576)) (H':=[]) ?_;refine⟨?_,rfl⟩
   first|(simp only[qd,if_neg h1,if_pos h2];try rfl;done)|rfl
  ·refine ae 8 [] λ _=>aam (f=2) 11 (λ h3=>?_) λ h3=>?_
   ·refine ae 7 [] λ _=>aai (cY v (-16384) 16384  _)<|ae 3 [] λ _=>aaq [] [] [] (v:=vI (aM v (-16384) 16384)) (H':=[]) ?_;refine⟨?_,rfl⟩
    first|(simp only[qd,if_neg h1,if_neg h2,if_pos h3];try rfl;done)|rfl
   ·refine ae 6 [] λ _=>aam (f=3) 11 (λ h4=>?_) λ h4=>?_
    ·refine ae 4 [] λ _=>aai (cY v (-16384) 16384  _)<|ae 3 [] λ _=>aaq [] [] [] (v:=vI (aM v (-16384) 16384)) (H':=[]) ?_;refine⟨?_,rfl⟩
     first|(simp only[qd,if_neg h1,if_neg h2,if_neg h3,if_pos h4];try rfl;done)|rfl
    ·refine ae 10 [] λ _=>aaq [] [] [] (v:=vI v) (H':=[]) ?_;refine⟨?_,rfl⟩
     first|(simp only[qd,if_neg h1,if_neg h2,if_neg h3,if_neg h4];try rfl;done)|rfl
theorem Mc(op n sp:Int)(F:HL)(hE:bF F):Sp Tryz.prog 231 #[.agg #[vI op,vI n],vI sp] [] F (λ u H'=>u=.bool (fU op n sp) /\ H'=[]):=by
 refine aav Tryz.func231 rfl (mc hE mn) (A:=[]) (Ts:=[]) rfl λ w0=>?_;refine ae 13 [.own 0] λ n1=>aam (op<1) 9 (λ h2=>?_) λ h2=>?_
 ·refine ae 16 [] λ _=>aaq [] [] [] (v:=.bool false) (H':=[]) ?_;refine⟨?_,rfl⟩
  first|(simp only[fU,if_pos h2];try rfl;done)|rfl
 ·refine ae 5 [.own 0] λ _=>aam (op>21) 14 (λ h3=>?_) λ h3=>?_
  ·refine ae 11 [] λ _=>aaq [] [] [] (v:=.bool false) (H':=[]) ?_;refine⟨?_,rfl⟩
   first|(simp only[fU,if_neg h2,if_pos h3];try rfl;done)|rfl
  ·refine ae 5 [] λ _=>aam (sp>16) 17 (λ h4=>?_) λ h4=>?_
   ·refine ae 6 [] λ _=>aaq [] [] [] (v:=.bool false) (H':=[]) ?_;refine⟨?_,rfl⟩
    first|(simp only[fU,if_neg h2,if_neg h3,if_pos h4];try rfl;done)|rfl
   ·refine ah 21 [.own 0,.ix ((op).toNat),.rorow 0 ((op).toNat) 0,.rorow 0 ((op).toNat) 1,.rorow 0 ((op).toNat) 2,.own 0,.own 0,.own 0,.own 0] [((0+((op).toNat)*3)+2)=((op).toNat)*3+2 /\ ((op).toNat)<22,((0+((op).toNat)*3)+1)=((op).toNat)*3+1 /\ ((op).toNat)<22,(0+((op).toNat)*3)=((op).toNat)*3+0 /\ ((op).toNat)<22,op=(((op).toNat:Nat):Int) /\ (op).toNat<22] λ n5=>aam (sp<eP op) 26 (λ h6=>?_) λ h6=>?_
    ·refine ae 17 [] λ _=>aaq [] [] [] (v:=.bool false) (H':=[]) ?_;refine⟨?_,rfl⟩
     first|(simp only[fU,if_neg h2,if_neg h3,if_neg h4,if_pos h6];try rfl;done)|rfl
    ·refine ae 11 (aab 2) λ _=>aam (i64.wrap ((i64.wrap (sp-(eP op)))+(eQ op))>16) 35 (λ h7=>?_) λ h7=>?_
     ·refine ae 6 [] λ _=>aaq [] [] [] (v:=.bool false) (H':=[]) ?_;refine⟨?_,rfl⟩
      first|(simp only[fU,if_neg h2,if_neg h3,if_neg h4,if_neg h6,if_pos h7];try rfl;done)|rfl
     ·refine ae 9 [.own 0] λ _=>aam (eN op=0) 39 (λ h8=>?_) λ h8=>?_
      ·refine ae 14 [] λ _=>aaq [] [] [] (v:=.bool true) (H':=[]) ?_;refine⟨?_,rfl⟩
       first|(simp only[fU,if_neg h2,if_neg h3,if_neg h4,if_neg h6,if_neg h7,if_pos h8];try rfl;done)|rfl
      ·refine ae 4 [.own 1] λ _=>aam (n >= 0) 43 (λ h9=>?_) λ h9=>?_
       ·refine ae 10 [.own 1,.own 0] λ _=>aaq [] [] [] (v:=.bool (decide (n<eN op))) (H':=[]) ?_;refine⟨?_,rfl⟩
        first|(simp only[fU,if_neg h2,if_neg h3,if_neg h4,if_neg h6,if_neg h7,if_neg h8,if_pos h9];try rfl;done)|rfl
       ·refine ae 10 [] λ _=>aaq [] [] [] (v:=.bool false) (H':=[]) ?_;refine⟨?_,rfl⟩
        first|(simp only[fU,if_neg h2,if_neg h3,if_neg h4,if_neg h6,if_neg h7,if_neg h8,if_neg h9];try rfl;done)|rfl
theorem ld1(mb:Nat)(M:MemS)(k:Nat)(T:HL)(n:Int)(F:HL)(hM:MemH mb M k T)(hs:∀x∈T,x∈F):Sp Tryz.prog 281 #[.iface 113 (vP mb 0),vI n] [] F (λ u H'=>u=vI (n) /\ H'=[]):=by
 refine aav Tryz.func281 rfl mn (A:=[]) (Ts:=[]) rfl λ w0=>?_;refine ae 11 [] λ _=>?_;exact aaq [] [] [] ⟨rfl,rfl⟩
theorem ld2(mb:Nat)(M:MemS)(k:Nat)(T:HL)(n:Int)(F:HL)(hM:MemH mb M k T)(hs:∀x∈T,x∈F):Sp Tryz.prog 282 #[.iface 113 (vP mb 0),vI n] [] F (λ u H'=>u=vI (M.get (bz (32+n))) /\ H'=[]):=by
 refine aav Tryz.func282 rfl mn (A:=[]) (Ts:=[]) rfl λ w0=>?_;refine ae 10 [] λ _=>aai (aD (i64.wrap (32+n)) hM λ x hx=>aq (hs x hx))<|ae 3 [] λ _=>?_;exact aaq [] [] [] ⟨rfl,rfl⟩
theorem ld3(mb:Nat)(M:MemS)(k:Nat)(T:HL)(n:Int)(F:HL)(hM:MemH mb M k T)(hs:∀x∈T,x∈F):Sp Tryz.prog 283 #[.iface 113 (vP mb 0),vI n] [] F (λ u H'=>u=vI (M.get 9) /\ H'=[]):=by
 refine aav Tryz.func283 rfl mn (A:=[]) (Ts:=[]) rfl λ w0=>?_;refine ae 8 [] λ _=>aai (aD 9 hM λ x hx=>aq (hs x hx))<|ae 3 [] λ _=>?_;exact aaq [] [] [] ⟨rfl,rfl⟩
theorem ld4(mb:Nat)(M:MemS)(k:Nat)(T:HL)(n:Int)(F:HL)(hM:MemH mb M k T)(hs:∀x∈T,x∈F):Sp Tryz.prog 284 #[.iface 113 (vP mb 0),vI n] [] F (λ u H'=>u=vI (M.get 10) /\ H'=[]):=by
 refine aav Tryz.func284 rfl mn (A:=[]) (Ts:=[]) rfl λ w0=>?_;refine ae 8 [] λ _=>aai (aD 10 hM λ x hx=>aq (hs x hx))<|ae 3 [] λ _=>?_;exact aaq [] [] [] ⟨rfl,rfl⟩
theorem ld5(mb:Nat)(M:MemS)(k:Nat)(T:HL)(n:Int)(F:HL)(hM:MemH mb M k T)(hs:∀x∈T,x∈F):Sp Tryz.prog 285 #[.iface 113 (vP mb 0),vI n] [] F (λ u H'=>u=vI (M.get 0) /\ H'=[]):=by
 refine aav Tryz.func285 rfl mn (A:=[]) (Ts:=[]) rfl λ w0=>?_;refine ae 8 [] λ _=>aai (aD 0 hM λ x hx=>aq (hs x hx))<|ae 3 [] λ _=>?_;exact aaq [] [] [] ⟨rfl,rfl⟩
theorem Se(a b:Int)(F:HL):Sp Tryz.prog 286 #[vI a,vI b] [] F (λ u H'=>u=vI (mU (bz (a+b))) /\ H'=[]):=by
 refine aav Tryz.func286 rfl mn (A:=[]) (Ts:=[]) rfl λ w0=>?_;refine ae 10 [] λ _=>aai (qf (i64.wrap (a+b))  _)<|ae 3 [] λ _=>?_;exact aaq [] [] [] ⟨rfl,rfl⟩
theorem Sf(a b:Int)(F:HL):Sp Tryz.prog 288 #[vI a,vI b] [] F (λ u H'=>u=vI (mU (bz (a-b))) /\ H'=[]):=by
 refine aav Tryz.func288 rfl mn (A:=[]) (Ts:=[]) rfl λ w0=>?_;refine ae 10 [] λ _=>aai (qf (i64.wrap (a-b))  _)<|ae 3 [] λ _=>?_;exact aaq [] [] [] ⟨rfl,rfl⟩
theorem Sg(a b:Int)(F:HL):Sp Tryz.prog 289 #[vI a,vI b] [] F (λ u H'=>u=vI (mU (bz (a*b))) /\ H'=[]):=by
 refine aav Tryz.func289 rfl mn (A:=[]) (Ts:=[]) rfl λ w0=>?_;refine ae 10 [] λ _=>aai (qf (i64.wrap (a*b))  _)<|ae 3 [] λ _=>?_;exact aaq [] [] [] ⟨rfl,rfl⟩
theorem Sh(a b:Int)(F:HL):Sp Tryz.prog 290 #[vI a,vI b] [] F (λ u H'=>u=vI (if b=0 then 0 else mU (bz (a.tdiv b))) /\ H'=[]):=by
 refine aav Tryz.func290 rfl mn (A:=[]) (Ts:=[]) rfl λ w0=>?_;refine ae 12 [] λ _=>aam (b=0) 6 (λ h1=>?_) λ h1=>?_
 ·refine ae 6 [] λ _=>aaq [] [] [] (v:=vI 0) (H':=[]) ?_;exact⟨by simp[*],rfl⟩
 ·refine ah 8 [.dv] [b≠0] λ _=>aai (qf (i64.wrap (a.tdiv b))  _)<|ae 3 [] λ _=>aaq [] [] [] (v:=vI (mU (i64.wrap (a.tdiv b)))) (H':=[]) ?_;exact⟨by simp[*],rfl⟩
theorem Si(a b:Int)(F:HL):Sp Tryz.prog 291 #[vI a,vI b] [] F (λ u H'=>u=vI (jb (decide (a<b))) /\ H'=[]):=by
 refine aav Tryz.func291 rfl mn (A:=[]) (Ts:=[]) rfl λ w0=>?_;refine ae 10 [] λ _=>aai (nP (decide (a<b)) _)<|ae 3 [] λ _=>?_;exact aaq [] [] [] ⟨rfl,rfl⟩
theorem Sj(a b:Int)(F:HL):Sp Tryz.prog 293 #[vI a,vI b] [] F (λ u H'=>u=vI (jb (decide (a <= b))) /\ H'=[]):=by
 refine aav Tryz.func293 rfl mn (A:=[]) (Ts:=[]) rfl λ w0=>?_;refine ae 10 [] λ _=>aai (nP (decide (a <= b)) _)<|ae 3 [] λ _=>?_;exact aaq [] [] [] ⟨rfl,rfl⟩
theorem Sk(a b:Int)(F:HL):Sp Tryz.prog 294 #[vI a,vI b] [] F (λ u H'=>u=vI (jb (decide (a=b))) /\ H'=[]):=by
 refine aav Tryz.func294 rfl mn (A:=[]) (Ts:=[]) rfl λ w0=>?_;refine ae 10 [] λ _=>aai (nP (decide (a=b)) _)<|ae 3 [] λ _=>?_;exact aaq [] [] [] ⟨rfl,rfl⟩
theorem un1(a:Int)(F:HL):Sp Tryz.prog 295 #[vI a] [] F (λ u H'=>u=vI (mU (bz (0-a))) /\ H'=[]):=by
 refine aav Tryz.func295 rfl mn (A:=[]) (Ts:=[]) rfl λ w0=>?_;refine ae 9 [] λ _=>aai (qf (i64.wrap (0-a))  _)<|ae 3 [] λ _=>?_;exact aaq [] [] [] ⟨rfl,rfl⟩
theorem un2(a:Int)(F:HL):Sp Tryz.prog 296 #[vI a] [] F (λ u H'=>u=vI (jb (decide (a=0))) /\ H'=[]):=by
 refine aav Tryz.func296 rfl mn (A:=[]) (Ts:=[]) rfl λ w0=>?_;refine ae 9 [] λ _=>aai (nP (decide (a=0)) _)<|ae 3 [] λ _=>?_;exact aaq [] [] [] ⟨rfl,rfl⟩
theorem QD(F:HL):Sp Tryz.prog 262 #[vI 1] [] F (λ u H'=>u=.func (.func 281) #[] #[] /\ H'=[]):=by
 refine aav Tryz.func262 rfl mn (A:=[]) (Ts:=[]) rfl λ w0=>?_;refine ae 19 (ow 0 11) λ n1=>?_;exact aaq [] [] [] ⟨rfl,rfl⟩
theorem QE(F:HL):Sp Tryz.prog 262 #[vI 2] [] F (λ u H'=>u=.func (.func 282) #[] #[] /\ H'=[]):=by
 refine aav Tryz.func262 rfl mn (A:=[]) (Ts:=[]) rfl λ w0=>?_;refine ae 19 (ow 0 11) λ n1=>?_;exact aaq [] [] [] ⟨rfl,rfl⟩
theorem QF(F:HL):Sp Tryz.prog 262 #[vI 6] [] F (λ u H'=>u=.func (.func 283) #[] #[] /\ H'=[]):=by
 refine aav Tryz.func262 rfl mn (A:=[]) (Ts:=[]) rfl λ w0=>?_;refine ae 19 (ow 0 11) λ n1=>?_;exact aaq [] [] [] ⟨rfl,rfl⟩
theorem QG(F:HL):Sp Tryz.prog 262 #[vI 7] [] F (λ u H'=>u=.func (.func 284) #[] #[] /\ H'=[]):=by
 refine aav Tryz.func262 rfl mn (A:=[]) (Ts:=[]) rfl λ w0=>?_;refine ae 19 (ow 0 11) λ n1=>?_;exact aaq [] [] [] ⟨rfl,rfl⟩
theorem QH(F:HL):Sp Tryz.prog 262 #[vI 8] [] F (λ u H'=>u=.func (.func 285) #[] #[] /\ H'=[]):=by
 refine aav Tryz.func262 rfl mn (A:=[]) (Ts:=[]) rfl λ w0=>?_;refine ae 19 (ow 0 11) λ n1=>?_;exact aaq [] [] [] ⟨rfl,rfl⟩
theorem QI(F:HL):Sp Tryz.prog 263 #[vI 9] [] F (λ u H'=>u=.func (.func 286) #[] #[] /\ H'=[]):=by
 refine aav Tryz.func263 rfl mn (A:=[]) (Ts:=[]) rfl λ w0=>?_;refine ae 21 (ow 0 15) λ n1=>?_;exact aaq [] [] [] ⟨rfl,rfl⟩
theorem OC(F:HL):Sp Tryz.prog 263 #[vI 10] [] F (λ u H'=>u=.func (.func 288) #[] #[] /\ H'=[]):=by
 refine aav Tryz.func263 rfl mn (A:=[]) (Ts:=[]) rfl λ w0=>?_;refine ae 21 (ow 0 15) λ n1=>?_;exact aaq [] [] [] ⟨rfl,rfl⟩
theorem OD(F:HL):Sp Tryz.prog 263 #[vI 11] [] F (λ u H'=>u=.func (.func 289) #[] #[] /\ H'=[]):=by
 refine aav Tryz.func263 rfl mn (A:=[]) (Ts:=[]) rfl λ w0=>?_;refine ae 21 (ow 0 15) λ n1=>?_;exact aaq [] [] [] ⟨rfl,rfl⟩
theorem OE(F:HL):Sp Tryz.prog 263 #[vI 12] [] F (λ u H'=>u=.func (.func 290) #[] #[] /\ H'=[]):=by
 refine aav Tryz.func263 rfl mn (A:=[]) (Ts:=[]) rfl λ w0=>?_;refine ae 21 (ow 0 15) λ n1=>?_;exact aaq [] [] [] ⟨rfl,rfl⟩
theorem OG(F:HL):Sp Tryz.prog 263 #[vI 14] [] F (λ u H'=>u=.func (.func 291) #[] #[] /\ H'=[]):=by
 refine aav Tryz.func263 rfl mn (A:=[]) (Ts:=[]) rfl λ w0=>?_;refine ae 21 (ow 0 15) λ n1=>?_;exact aaq [] [] [] ⟨rfl,rfl⟩
theorem OH(F:HL):Sp Tryz.prog 263 #[vI 15] [] F (λ u H'=>u=.func (.func 293) #[] #[] /\ H'=[]):=by
 refine aav Tryz.func263 rfl mn (A:=[]) (Ts:=[]) rfl λ w0=>?_;refine ae 21 (ow 0 15) λ n1=>?_;exact aaq [] [] [] ⟨rfl,rfl⟩
theorem OI(F:HL):Sp Tryz.prog 263 #[vI 16] [] F (λ u H'=>u=.func (.func 294) #[] #[] /\ H'=[]):=by
 refine aav Tryz.func263 rfl mn (A:=[]) (Ts:=[]) rfl λ w0=>?_;refine ae 21 (ow 0 15) λ n1=>?_;exact aaq [] [] [] ⟨rfl,rfl⟩
theorem OJ(F:HL):Sp Tryz.prog 264 #[vI 13] [] F (λ u H'=>u=.func (.func 295) #[] #[] /\ H'=[]):=by
 refine aav Tryz.func264 rfl mn (A:=[]) (Ts:=[]) rfl λ w0=>?_;refine ae 16 (ow 0 5) λ n1=>?_;exact aaq [] [] [] ⟨rfl,rfl⟩
theorem OL(F:HL):Sp Tryz.prog 264 #[vI 17] [] F (λ u H'=>u=.func (.func 296) #[] #[] /\ H'=[]):=by
 refine aav Tryz.func264 rfl mn (A:=[]) (Ts:=[]) rfl λ w0=>?_;refine ae 16 (ow 0 5) λ n1=>?_;exact aaq [] [] [] ⟨rfl,rfl⟩
theorem QJ(F:HL):Sp Tryz.prog 265 #[vI 3] [] F (λ u H'=>u=.func (.func 297) #[] #[] /\ H'=[]):=by
 refine aav Tryz.func265 rfl mn (A:=[]) (Ts:=[]) rfl λ w0=>?_;refine ae 21 (ow 0 15) λ n1=>?_;exact aaq [] [] [] ⟨rfl,rfl⟩
theorem QK(F:HL):Sp Tryz.prog 265 #[vI 4] [] F (λ u H'=>u=.func (.func 298) #[] #[] /\ H'=[]):=by
 refine aav Tryz.func265 rfl mn (A:=[]) (Ts:=[]) rfl λ w0=>?_;refine ae 21 (ow 0 15) λ n1=>?_;exact aaq [] [] [] ⟨rfl,rfl⟩
theorem QL(F:HL):Sp Tryz.prog 265 #[vI 5] [] F (λ u H'=>u=.func (.func 299) #[] #[] /\ H'=[]):=by
 refine aav Tryz.func265 rfl mn (A:=[]) (Ts:=[]) rfl λ w0=>?_;refine ae 21 (ow 0 15) λ n1=>?_;exact aaq [] [] [] ⟨rfl,rfl⟩
theorem OM(F:HL):Sp Tryz.prog 265 #[vI 18] [] F (λ u H'=>u=.func (.func 301) #[] #[] /\ H'=[]):=by
 refine aav Tryz.func265 rfl mn (A:=[]) (Ts:=[]) rfl λ w0=>?_;refine ae 21 (ow 0 15) λ n1=>?_;exact aaq [] [] [] ⟨rfl,rfl⟩
theorem ON(F:HL):Sp Tryz.prog 265 #[vI 19] [] F (λ u H'=>u=.func (.func 302) #[] #[] /\ H'=[]):=by
 refine aav Tryz.func265 rfl mn (A:=[]) (Ts:=[]) rfl λ w0=>?_;refine ae 21 (ow 0 15) λ n1=>?_;exact aaq [] [] [] ⟨rfl,rfl⟩
theorem OO(F:HL):Sp Tryz.prog 265 #[vI 20] [] F (λ u H'=>u=.func (.func 303) #[] #[] /\ H'=[]):=by
 refine aav Tryz.func265 rfl mn (A:=[]) (Ts:=[]) rfl λ w0=>?_;refine ae 21 (ow 0 15) λ n1=>?_;exact aaq [] [] [] ⟨rfl,rfl⟩
theorem OP(F:HL):Sp Tryz.prog 265 #[vI 21] [] F (λ u H'=>u=.func (.func 305) #[] #[] /\ H'=[]):=by
 refine aav Tryz.func265 rfl mn (A:=[]) (Ts:=[]) rfl λ w0=>?_;refine ae 21 (ow 0 15) λ n1=>?_;exact aaq [] [] [] ⟨rfl,rfl⟩
theorem OQ(mb:Nat)(M:MemS)(k:Nat)(T:HL)(kd v:Int)(F:HL)(hM:MemH mb M (k+2) T) :Sp Tryz.prog 304 #[.iface 113 (vP mb 0),vI kd,vI v] (ap [] [T]) F (λ u H'=>∃x,H'=ap [] [x] /\ (MemH mb ((da kd v M).M) k x /\ u=.tuple #[.agg (aaa (da kd v M).e).toArray,.bool ((da kd v M).em)])):=by
 refine aav Tryz.func304 rfl mn (A:=[]) (Ts:=[T]) rfl λ w0=>?_;refine ae 9 [] λ n1=>aai (aD 11 hM (ak 0))<|ae 10 [] λ _=>aam (M.get 11 >= 40) 14 (λ h2=>?_) λ h2=>?_
 ·refine ae 8 (aab 4) λ _=>aaq (aab 4) [] [0] (v:=.tuple #[.agg #[vI 0,vI 0,vI 0,vI 0],.bool false]) (H':=(ap [] [T])) ?_;refine⟨T,rfl,?_⟩;refine⟨?_,?_⟩
  ·simp only[da,if_pos h2];exact hM.weak (by omega)
  ·simp only[da,if_pos h2]
 ·refine ae 6 [] λ _=>aai (aD 0 hM (ak 0))<|ae 6 [] λ _=>aai (aD 12 hM (ak 0))<|ae 4 [] λ n3=>aak 0 (.rows 1 4 (aB [M.get 12,M.get 0,kd,v]) 3 (0,0))<|aai (IC (⟨#[101,102,102,101,99,116]⟩) ([M.get 12,M.get 0,kd,v]) (n3+0) 4 _ (by decide) (Nat.le_of_ble_eq_true rfl) (Nat.le_of_ble_eq_true rfl) (az 0))<|ae 9 [] λ _=>aaj [] [0] (al 12 (i64.wrap ((OB (⟨#[101,102,102,101,99,116]⟩) ([M.get 12,M.get 0,kd,v])).fdiv 2)) hM) ?_;rintro _ T4 WT;refine ae 7 [] λ _=>aaj [] [0] (al 11 (i64.wrap ((M.get 11)+1)) WT) ?_;rintro _ T6 hM7;refine ae 13 [.own 1,.own 1,.own 1,.own 1] λ _=>aaq [.own 1,.own 1,.own 1,.own 1] [] [0] (v:=.tuple #[.agg #[vI (M.get 0),vI (M.get 11),vI kd,vI v],.bool true]) (H':=(ap [] [T6])) ?_;refine⟨T6,rfl,?_⟩;refine⟨?_,?_⟩
  ·simp only[da,if_neg h2];exact hM7.weak (by omega)
  ·simp only[da,if_neg h2]
theorem Sl(mb:Nat)(M:MemS)(k:Nat)(T:HL)(S:Setup)(n a b:Int)(F:HL)(hM:MemH mb M (k+1) T)(hS:SetN S):Sp Tryz.prog 297 #[.iface 113 (vP mb 0),(Setup.v S),.agg #[vI n,vI a,vI b]] (ap [] [T]) F (λ u H'=>∃x,H'=ap [] [x] /\ (MemH mb (M.set (bz (32+n)) a) k x /\ u=.tuple #[vI 0,.agg #[vI 0,vI 0,vI 0,vI 0],.bool false])):=by
 have h1:=hS.pl;have h2:=hS.nb;refine aav Tryz.func297 rfl mn (A:=[]) (Ts:=[T]) rfl λ w0=>?_;refine ae 17 [.own 1,.own 1] λ n1=>aaj [] [0] (al (i64.wrap (32+n)) a hM) ?_;rintro _ T2 V9;refine ae 10 (aab 4) λ _=>aaq (aab 4) [] [0] (v:=.tuple #[vI 0,.agg #[vI 0,vI 0,vI 0,vI 0],.bool false]) (H':=(ap [] [T2])) ?_;refine⟨T2,rfl,?_⟩;refine⟨?_,?_⟩
 ·first|(simp only[];exact V9.weak (by omega))|exact V9.weak (by omega)
 ·first|rfl|(simp only[];done)|(simp only[];rfl)
theorem Sm(mb:Nat)(M:MemS)(k:Nat)(T:HL)(S:Setup)(n a b:Int)(F:HL)(hM:MemH mb M (k+0) T)(hS:SetN S):Sp Tryz.prog 298 #[.iface 113 (vP mb 0),(Setup.v S),.agg #[vI n,vI a,vI b]] (ap [] [T]) F (λ u H'=>∃x,H'=ap [] [x] /\ (MemH mb (M) k x /\ u=.tuple #[vI (if af S a >= 0 then M.get (bz (af S a+n)) else 0),.agg #[vI 0,vI 0,vI 0,vI 0],.bool false])):=by
 have h1:=hS.pl;have h2:=hS.nb;refine aav Tryz.func298 rfl mn (A:=[]) (Ts:=[T]) rfl λ w0=>?_;refine ae 15 (ow 2 16++[.own 1]) λ n1=>aai (dj S a _ hS) ?_;have hb2:=di hS a;refine ae 9 [] λ _=>aam (af S a >= 0) 15 (λ h3=>?_) λ h3=>?_
 ·refine ae 8 [.own 1] λ _=>aai (aD (i64.wrap ((af S a)+n)) hM (ak 0))<|ae 6 (aab 4) λ _=>aaq (aab 4) [] [0] (v:=.tuple #[vI (M.get (i64.wrap ((af S a)+n))),.agg #[vI 0,vI 0,vI 0,vI 0],.bool false]) (H':=(ap [] [T])) ?_;refine⟨T,rfl,?_⟩;refine⟨?_,?_⟩
  ·first|(simp only[if_pos h3];exact hM.weak (by omega))|exact hM.weak (by omega)
  ·first|rfl|(simp only[if_pos h3];done)|(simp only[if_pos h3];rfl)
 ·refine ae 11 (aab 4) λ _=>aaq (aab 4) [] [0] (v:=.tuple #[vI 0,.agg #[vI 0,vI 0,vI 0,vI 0],.bool false]) (H':=(ap [] [T])) ?_;refine⟨T,rfl,?_⟩;refine⟨?_,?_⟩
  ·first|(simp only[if_neg h3];exact hM.weak (by omega))|exact hM.weak (by omega)
  ·first|rfl|(simp only[if_neg h3];done)|(simp only[if_neg h3];rfl)
theorem Sn(mb:Nat)(M:MemS)(k:Nat)(T:HL)(S:Setup)(n a b:Int)(F:HL)(hM:MemH mb M (k+1) T)(hS:SetN S):Sp Tryz.prog 299 #[.iface 113 (vP mb 0),(Setup.v S),.agg #[vI n,vI a,vI b]] (ap [] [T]) F (λ u H'=>∃x,H'=ap [] [x] /\ (MemH mb (if af S a >= 0 then M.set (bz (af S a+n)) (qd n b) else M) k x /\ u=.tuple #[vI 0,.agg #[vI 0,vI 0,vI 0,vI 0],.bool false])):=by
 have h1:=hS.pl;have h2:=hS.nb;refine aav Tryz.func299 rfl mn (A:=[]) (Ts:=[T]) rfl λ w0=>?_;refine ae 15 (ow 2 16++[.own 1]) λ n1=>aai (dj S a _ hS) ?_;have hb2:=di hS a;refine ae 9 [] λ _=>aam (af S a >= 0) 15 (λ h3=>?_) λ h3=>?_
 ·refine ae 1 [] λ _=>aal [13] []<|ag [] [0,1,2,5,7,3,6,8,10,4,11,12] [.own 1,.own 1,.own 1]<|aac [] 9 (λ X_=>(FU n b  _))<|aae 13 (aaf [] [] [0] (al (i64.wrap ((af S a)+n)) (qd n b) hM) ?_);rintro _ T4 WT;refine aad<|ae 9 (aab 4) λ _=>aaq (aab 4) [] [0] (v:=.tuple #[vI 0,.agg #[vI 0,vI 0,vI 0,vI 0],.bool false]) (H':=(ap [] [T4])) ?_;refine⟨T4,rfl,?_⟩;refine⟨?_,?_⟩
  ·first|(simp only[if_pos h3];exact WT.weak (by omega))|exact WT.weak (by omega)
  ·first|rfl|(simp only[if_pos h3];done)|(simp only[if_pos h3];rfl)
 ·refine ae 11 (aab 4) λ _=>aaq (aab 4) [] [0] (v:=.tuple #[vI 0,.agg #[vI 0,vI 0,vI 0,vI 0],.bool false]) (H':=(ap [] [T])) ?_;refine⟨T,rfl,?_⟩;refine⟨?_,?_⟩
  ·first|(simp only[if_neg h3];exact hM.weak (by omega))|exact hM.weak (by omega)
  ·first|rfl|(simp only[if_neg h3];done)|(simp only[if_neg h3];rfl)
theorem QM(mb:Nat)(M:MemS)(k:Nat)(T:HL)(S:Setup)(n a b:Int)(F:HL)(hM:MemH mb M (k+1) T)(hS:SetN S):Sp Tryz.prog 301 #[.iface 113 (vP mb 0),(Setup.v S),.agg #[vI n,vI a,vI b]] (ap [] [T]) F (λ u H'=>∃x,H'=ap [] [x] /\ (MemH mb (M.set 6 n) k x /\ u=.tuple #[vI 0,.agg #[vI 0,vI 0,vI 0,vI 0],.bool false])):=by
 have h1:=hS.pl;have h2:=hS.nb;refine aav Tryz.func301 rfl mn (A:=[]) (Ts:=[T]) rfl λ w0=>?_;refine ae 14 [.own 1] λ n1=>aaj [] [0] (al 6 n hM) ?_;rintro _ T2 V9;refine ae 10 (aab 4) λ _=>aaq (aab 4) [] [0] (v:=.tuple #[vI 0,.agg #[vI 0,vI 0,vI 0,vI 0],.bool false]) (H':=(ap [] [T2])) ?_;refine⟨T2,rfl,?_⟩;refine⟨?_,?_⟩
 ·first|(simp only[];exact V9.weak (by omega))|exact V9.weak (by omega)
 ·first|rfl|(simp only[];done)|(simp only[];rfl)
theorem QN(mb:Nat)(M:MemS)(k:Nat)(T:HL)(S:Setup)(n a b:Int)(F:HL)(hM:MemH mb M (k+1) T)(hS:SetN S):Sp Tryz.prog 302 #[.iface 113 (vP mb 0),(Setup.v S),.agg #[vI n,vI a,vI b]] (ap [] [T]) F (λ u H'=>∃x,H'=ap [] [x] /\ (MemH mb (if a=0 then M.set 6 n else M) k x /\ u=.tuple #[vI 0,.agg #[vI 0,vI 0,vI 0,vI 0],.bool false])):=by
 have h1:=hS.pl;have h2:=hS.nb;refine aav Tryz.func302 rfl mn (A:=[]) (Ts:=[T]) rfl λ w0=>?_;refine ae 17 [.own 1] λ n1=>aam (a=0) 11 (λ h2=>?_) λ h2=>?_
 ·refine ae 5 [.own 1] λ _=>aaj [] [0] (al 6 n hM) ?_;rintro _ T3 Tf;refine ae 10 (aab 4) λ _=>aaq (aab 4) [] [0] (v:=.tuple #[vI 0,.agg #[vI 0,vI 0,vI 0,vI 0],.bool false]) (H':=(ap [] [T3])) ?_;refine⟨T3,rfl,?_⟩;refine⟨?_,?_⟩
  ·first|(simp only[if_pos h2];exact Tf.weak (by omega))|exact Tf.weak (by omega)
  ·first|rfl|(simp only[if_pos h2];done)|(simp only[if_pos h2];rfl)
 ·refine ae 11 (aab 4) λ _=>aaq (aab 4) [] [0] (v:=.tuple #[vI 0,.agg #[vI 0,vI 0,vI 0,vI 0],.bool false]) (H':=(ap [] [T])) ?_;refine⟨T,rfl,?_⟩;refine⟨?_,?_⟩
  ·first|(simp only[if_neg h2];exact hM.weak (by omega))|exact hM.weak (by omega)
  ·first|rfl|(simp only[if_neg h2];done)|(simp only[if_neg h2];rfl)
theorem QO(mb:Nat)(M:MemS)(k:Nat)(T:HL)(S:Setup)(n a b:Int)(F:HL)(hM:MemH mb M (k+2) T)(hS:SetN S):Sp Tryz.prog 303 #[.iface 113 (vP mb 0),(Setup.v S),.agg #[vI n,vI a,vI b]] (ap [] [T]) F (λ u H'=>∃x,H'=ap [] [x] /\ (MemH mb ((da a b M).M) k x /\ u=.tuple #[vI 0,.agg (aaa (da a b M).e).toArray,.bool ((da a b M).em)])):=by
 have h1:=hS.pl;have h2:=hS.nb;refine aav Tryz.func303 rfl mn (A:=[]) (Ts:=[T]) rfl λ w0=>?_;refine ae 16 [.own 1,.own 1] λ n1=>aaj [] [0] (OQ mb M k T a b _ hM) ?_;rintro _ T2 ⟨V9,rfl⟩;refine ae 9 (aab 4) λ n4=>aal [3] [0,2,3]<|ag [0,2,3] [0,1,2] (aab 4)<|aae 3 (aag [0,2,3] [.own 1,.own 1,.own 1,.own 1] λ _=>?_);refine ag [0,2,3] [4] []<|aad<|ae 1 [] λ _=>aaq [.own 1,.own 1,.own 1,.own 1] [] [0] (v:=.tuple #[vI 0,.agg (aaa (da a b M).e).toArray,.bool ((da a b M).em)]) (H':=(ap [] [T2])) ?_;refine⟨T2,rfl,?_⟩;refine⟨?_,?_⟩
 ·first|(simp only[];exact V9.weak (by omega))|exact V9.weak (by omega)
 ·first|rfl|(simp only[];done)|(simp only[];rfl)
theorem QP(mb:Nat)(M:MemS)(k:Nat)(T:HL)(S:Setup)(n a b:Int)(F:HL)(hM:MemH mb M (k+0) T)(hS:SetN S):Sp Tryz.prog 305 #[.iface 113 (vP mb 0),(Setup.v S),.agg #[vI n,vI a,vI b]] (ap [] [T]) F (λ u H'=>∃x,H'=ap [] [x] /\ (MemH mb (M) k x /\ u=.tuple #[vI 0,.agg #[vI 0,vI 0,vI 0,vI 0],.bool false])):=by
 have h1:=hS.pl;have h2:=hS.nb;refine aav Tryz.func305 rfl mn (A:=[]) (Ts:=[T]) rfl λ w0=>?_;refine ae 17 (aab 4) λ n1=>aaq (aab 4) [] [0] (v:=.tuple #[vI 0,.agg #[vI 0,vI 0,vI 0,vI 0],.bool false]) (H':=(ap [] [T])) ?_;refine⟨T,rfl,?_⟩;refine⟨?_,?_⟩
 ·first|(simp only[];exact hM.weak (by omega))|exact hM.weak (by omega)
 ·first|rfl|(simp only[];done)|(simp only[];rfl)
theorem lm(mb:Nat)(M:MemS)(k:Nat)(T:HL)(S:Setup)(op n a b:Int)(F:HL)(hM:MemH mb M (k+2) T)(hS:SetN S)(ho:1 <= op /\ op <= 21):Sp Tryz.prog 232 #[vI op,.iface 113 (vP mb 0),(Setup.v S),.agg #[vI n,vI a,vI b]] (ap [] [T]) F (λ u H'=>∃x,H'=ap [] [x] /\ (MemH mb ((aJ S op n a b M).M) k x /\ u=.tuple #[vI ((aJ S op n a b M).v),.agg (aaa (aJ S op n a b M).e).toArray,.bool ((aJ S op n a b M).em)])):=by
 refine aav Tryz.func232 rfl mn (A:=[]) (Ts:=[T]) rfl λ w0=>?_;refine ae 23 [] λ n1=>aam (op=1) 12 (λ h2=>?_) λ h2=>?_
 ·subst h2;refine ae 5 [] λ _=>aal [8] [1,2]<|ag [1,2] [0,2,3,6,4] [.own 1]<|aac [1,2] 1 (λ X_=>(QD _))<|aac [1,2] 5 (λ X_=>(ld1 mb M _ T n _ hM (aE 0)))<|ag [1,2] [7] []<|aae 8 (aag [1,2] (aab 4) λ _=>?_);refine ag [1,2] [9] []<|aad<|ae 1 [] λ _=>aaq (aab 4) [] [0] (v:=.tuple #[vI n,.agg #[vI 0,vI 0,vI 0,vI 0],.bool false]) (H':=(ap [] [T])) ?_;refine⟨T,rfl,?_⟩;exact⟨hM.weak (by omega),rfl⟩
 ·refine ae 7 [] λ _=>aam (op=2) 12 (λ h3=>?_) λ h3=>?_
  ·subst h3;refine ae 5 [] λ _=>aal [8] [1,2]<|ag [1,2] [0,2,3,6,4] [.own 1]<|aac [1,2] 1 (λ X_=>(QE _))<|aac [1,2] 5 (λ X_=>(ld2 mb M _ T n _ hM (aE 0)))<|ag [1,2] [7] []<|aae 8 (aag [1,2] (aab 4) λ _=>?_);refine ag [1,2] [9] []<|aad<|ae 1 [] λ _=>aaq (aab 4) [] [0] (v:=.tuple #[vI (M.get (bz (32+n))),.agg #[vI 0,vI 0,vI 0,vI 0],.bool false]) (H':=(ap [] [T])) ?_;refine⟨T,rfl,?_⟩;exact⟨hM.weak (by omega),rfl⟩
  ·refine ae 7 [] λ _=>aam (op=6) 12 (λ h4=>?_) λ h4=>?_
   ·subst h4;refine ae 5 [] λ _=>aal [8] [1,2]<|ag [1,2] [0,2,3,6,4] [.own 1]<|aac [1,2] 1 (λ X_=>(QF _))<|aac [1,2] 5 (λ X_=>(ld3 mb M _ T n _ hM (aE 0)))<|ag [1,2] [7] []<|aae 8 (aag [1,2] (aab 4) λ _=>?_);refine ag [1,2] [9] []<|aad<|ae 1 [] λ _=>aaq (aab 4) [] [0] (v:=.tuple #[vI (M.get 9),.agg #[vI 0,vI 0,vI 0,vI 0],.bool false]) (H':=(ap [] [T])) ?_;refine⟨T,rfl,?_⟩;exact⟨hM.weak (by omega),rfl⟩
   ·refine ae 7 [] λ _=>aam (op=7) 12 (λ h5=>?_) λ h5=>?_
    ·subst h5;refine ae 5 [] λ _=>aal [8] [1,2]<|ag [1,2] [0,2,3,6,4] [.own 1]<|aac [1,2] 1 (λ X_=>(QG _))<|aac [1,2] 5 (λ X_=>(ld4 mb M _ T n _ hM (aE 0)))<|ag [1,2] [7] []<|aae 8 (aag [1,2] (aab 4) λ _=>?_);refine ag [1,2] [9] []<|aad<|ae 1 [] λ _=>aaq (aab 4) [] [0] (v:=.tuple #[vI (M.get 10),.agg #[vI 0,vI 0,vI 0,vI 0],.bool false]) (H':=(ap [] [T])) ?_;refine⟨T,rfl,?_⟩;exact⟨hM.weak (by omega),rfl⟩
    ·refine ae 6 [] λ _=>aam (op=8) 12 (λ h6=>?_) λ h6=>?_
     ·subst h6;refine ae 2 [] λ _=>aal [8] [1,2]<|ag [1,2] [0,2,3,6,4] [.own 1]<|aac [1,2] 1 (λ X_=>(QH _))<|aac [1,2] 5 (λ X_=>(ld5 mb M _ T n _ hM (aE 0)))<|ag [1,2] [7] []<|aae 8 (aag [1,2] (aab 4) λ _=>?_);refine ag [1,2] [9] []<|aad<|ae 1 [] λ _=>aaq (aab 4) [] [0] (v:=.tuple #[vI (M.get 0),.agg #[vI 0,vI 0,vI 0,vI 0],.bool false]) (H':=(ap [] [T])) ?_;refine⟨T,rfl,?_⟩;exact⟨hM.weak (by omega),rfl⟩
     ·refine ae 8 [] λ _=>aam (op=9) 25 (λ h7=>?_) λ h7=>?_
      ·subst h7;refine ae 5 [] λ _=>aal [9] [1,2]<|ag [1,2] [0,2,4,7,3,5] [.own 1,.own 1]<|aac [1,2] 1 (λ X_=>(QI _))<|aac [1,2] 6 (λ X_=>(Se a b _))<|ag [1,2] [8] []<|aae 9 (aag [1,2] (aab 4) λ _=>?_);refine ag [1,2] [10] []<|aad<|ae 1 [] λ _=>aaq (aab 4) [] [0] (v:=.tuple #[vI (mU (bz (a+b))),.agg #[vI 0,vI 0,vI 0,vI 0],.bool false]) (H':=(ap [] [T])) ?_;refine⟨T,rfl,?_⟩;exact⟨hM.weak (by omega),rfl⟩
      ·refine ae 7 [] λ _=>aam (op=10) 25 (λ h8=>?_) λ h8=>?_
       ·subst h8;refine ae 5 [] λ _=>aal [9] [1,2]<|ag [1,2] [0,2,4,7,3,5] [.own 1,.own 1]<|aac [1,2] 1 (λ X_=>(OC _))<|aac [1,2] 6 (λ X_=>(Sf a b _))<|ag [1,2] [8] []<|aae 9 (aag [1,2] (aab 4) λ _=>?_);refine ag [1,2] [10] []<|aad<|ae 1 [] λ _=>aaq (aab 4) [] [0] (v:=.tuple #[vI (mU (bz (a-b))),.agg #[vI 0,vI 0,vI 0,vI 0],.bool false]) (H':=(ap [] [T])) ?_;refine⟨T,rfl,?_⟩;exact⟨hM.weak (by omega),rfl⟩
       ·refine ae 7 [] λ _=>aam (op=11) 25 (λ h9=>?_) λ h9=>?_
        ·subst h9;refine ae 5 [] λ _=>aal [9] [1,2]<|ag [1,2] [0,2,4,7,3,5] [.own 1,.own 1]<|aac [1,2] 1 (λ X_=>(OD _))<|aac [1,2] 6 (λ X_=>(Sg a b _))<|ag [1,2] [8] []<|aae 9 (aag [1,2] (aab 4) λ _=>?_);refine ag [1,2] [10] []<|aad<|ae 1 [] λ _=>aaq (aab 4) [] [0] (v:=.tuple #[vI (mU (bz (a*b))),.agg #[vI 0,vI 0,vI 0,vI 0],.bool false]) (H':=(ap [] [T])) ?_;refine⟨T,rfl,?_⟩;exact⟨hM.weak (by omega),rfl⟩
        ·refine ae 7 [] λ _=>aam (op=12) 25 (λ VU=>?_) λ VU=>?_
         ·subst VU;refine ae 5 [] λ _=>aal [9] [1,2]<|ag [1,2] [0,2,4,7,3,5] [.own 1,.own 1]<|aac [1,2] 1 (λ X_=>(OE _))<|aac [1,2] 6 (λ X_=>(Sh a b _))<|ag [1,2] [8] []<|aae 9 (aag [1,2] (aab 4) λ _=>?_);refine ag [1,2] [10] []<|aad<|ae 1 [] λ _=>aaq (aab 4) [] [0] (v:=.tuple #[vI (if b=0 then 0 else mU (bz (a.tdiv b))),.agg #[vI 0,vI 0,vI 0,vI 0],.bool false]) (H':=(ap [] [T])) ?_;refine⟨T,rfl,?_⟩;exact⟨hM.weak (by omega),rfl⟩
         ·refine ae 7 [] λ _=>aam (op=14) 25 (λ Vd=>?_) λ Vd=>?_
          ·subst Vd;refine ae 5 [] λ _=>aal [9] [1,2]<|ag [1,2] [0,2,4,7,3,5] [.own 1,.own 1]<|aac [1,2] 1 (λ X_=>(OG _))<|aac [1,2] 6 (λ X_=>(Si a b _))<|ag [1,2] [8] []<|aae 9 (aag [1,2] (aab 4) λ _=>?_);refine ag [1,2] [10] []<|aad<|ae 1 [] λ _=>aaq (aab 4) [] [0] (v:=.tuple #[vI (jb (decide (a<b))),.agg #[vI 0,vI 0,vI 0,vI 0],.bool false]) (H':=(ap [] [T])) ?_;refine⟨T,rfl,?_⟩;exact⟨hM.weak (by omega),rfl⟩
          ·refine ae 7 [] λ _=>aam (op=15) 25 (λ Uq=>?_) λ Uq=>?_
           ·subst Uq;refine ae 5 [] λ _=>aal [9] [1,2]<|ag [1,2] [0,2,4,7,3,5] [.own 1,.own 1]<|aac [1,2] 1 (λ X_=>(OH _))<|aac [1,2] 6 (λ X_=>(Sj a b _))<|ag [1,2] [8] []<|aae 9 (aag [1,2] (aab 4) λ _=>?_);refine ag [1,2] [10] []<|aad<|ae 1 [] λ _=>aaq (aab 4) [] [0] (v:=.tuple #[vI (jb (decide (a <= b))),.agg #[vI 0,vI 0,vI 0,vI 0],.bool false]) (H':=(ap [] [T])) ?_;refine⟨T,rfl,?_⟩;exact⟨hM.weak (by omega),rfl⟩
           ·refine ae 6 [] λ _=>aam (op=16) 25 (λ Vc=>?_) λ Vc=>?_
            ·subst Vc;refine ae 2 [] λ _=>aal [9] [1,2]<|ag [1,2] [0,2,4,7,3,5] [.own 1,.own 1]<|aac [1,2] 1 (λ X_=>(OI _))<|aac [1,2] 6 (λ X_=>(Sk a b _))<|ag [1,2] [8] []<|aae 9 (aag [1,2] (aab 4) λ _=>?_);refine ag [1,2] [10] []<|aad<|ae 1 [] λ _=>aaq (aab 4) [] [0] (v:=.tuple #[vI (jb (decide (a=b))),.agg #[vI 0,vI 0,vI 0,vI 0],.bool false]) (H':=(ap [] [T])) ?_;refine⟨T,rfl,?_⟩;exact⟨hM.weak (by omega),rfl⟩
            ·refine ae 8 [] λ _=>aam (op=13) 41 (λ VT=>?_) λ VT=>?_
             ·subst VT;refine ae 5 [] λ _=>aal [7] [1,2]<|ag [1,2] [0,2,5,3] [.own 1]<|aac [1,2] 1 (λ X_=>(OJ _))<|aac [1,2] 4 (λ X_=>(un1 a _))<|ag [1,2] [6] []<|aae 7 (aag [1,2] (aab 4) λ _=>?_);refine ag [1,2] [8] []<|aad<|ae 1 [] λ _=>aaq (aab 4) [] [0] (v:=.tuple #[vI (mU (bz (0-a))),.agg #[vI 0,vI 0,vI 0,vI 0],.bool false]) (H':=(ap [] [T])) ?_;refine⟨T,rfl,?_⟩;exact⟨hM.weak (by omega),rfl⟩
             ·refine ae 6 [] λ _=>aam (op=17) 41 (λ YF=>?_) λ YF=>?_
              ·subst YF;refine ae 2 [] λ _=>aal [7] [1,2]<|ag [1,2] [0,2,5,3] [.own 1]<|aac [1,2] 1 (λ X_=>(OL _))<|aac [1,2] 4 (λ X_=>(un2 a _))<|ag [1,2] [6] []<|aae 7 (aag [1,2] (aab 4) λ _=>?_);refine ag [1,2] [8] []<|aad<|ae 1 [] λ _=>aaq (aab 4) [] [0] (v:=.tuple #[vI (jb (decide (a=0))),.agg #[vI 0,vI 0,vI 0,vI 0],.bool false]) (H':=(ap [] [T])) ?_;refine⟨T,rfl,?_⟩;exact⟨hM.weak (by omega),rfl⟩
              ·refine ae 5 [] λ _=>?_;have h7:op=3 \/ op=4 \/ op=5 \/ op=18 \/ op=19 \/ op=20 \/ op=21:=by omega
               rcases h7 with rfl|rfl|rfl|rfl|rfl|rfl|rfl
               ·refine aal [5,10] []<|ag [] [0,2,3,4] (ow 2 16++[.own 1,.own 1,.own 1])<|aac [] 1 (λ X_=>(QJ _))<|aae 5 (aaf [] [] [0] (Sl mb M (k+1) T S n a b _ hM hS) ?_);rintro _ T16 ⟨Yi,rfl⟩;refine ag [] [6,7,8,9] []<|aae 10 (aag [] (aab 4) λ _=>?_);refine ag [] [11] []<|aad<|ae 1 [] λ _=>aaq (aab 4) [] [0] (v:=.tuple #[vI 0,.agg #[vI 0,vI 0,vI 0,vI 0],.bool false]) (H':=(ap [] [T16])) ?_;refine⟨T16,rfl,?_⟩;exact⟨Yi.weak (by omega),rfl⟩
               ·refine aal [5,10] []<|ag [] [0,2,3,4] (ow 2 16++[.own 1,.own 1,.own 1])<|aac [] 1 (λ X_=>(QK _))<|aae 5 (aaf [] [] [0] (Sm mb M (k+2) T S n a b _ hM hS) ?_);rintro _ T18 ⟨aaT,rfl⟩;refine ag [] [6,7,8,9] []<|aae 10 (aag [] (aab 4) λ _=>?_);refine ag [] [11] []<|aad<|ae 1 [] λ _=>aaq (aab 4) [] [0] (v:=.tuple #[vI (if af S a >= 0 then M.get (bz (af S a+n)) else 0),.agg #[vI 0,vI 0,vI 0,vI 0],.bool false]) (H':=(ap [] [T18])) ?_;refine⟨T18,rfl,?_⟩;exact⟨aaT.weak (by omega),rfl⟩
               ·refine aal [5,10] []<|ag [] [0,2,3,4] (ow 2 16++[.own 1,.own 1,.own 1])<|aac [] 1 (λ X_=>(QL _))<|aae 5 (aaf [] [] [0] (Sn mb M (k+1) T S n a b _ hM hS) ?_);rintro _ XL ⟨aaR,rfl⟩;refine ag [] [6,7,8,9] []<|aae 10 (aag [] (aab 4) λ _=>?_);refine ag [] [11] []<|aad<|ae 1 [] λ _=>aaq (aab 4) [] [0] (v:=.tuple #[vI 0,.agg #[vI 0,vI 0,vI 0,vI 0],.bool false]) (H':=(ap [] [XL])) ?_;refine⟨XL,rfl,?_⟩;exact⟨aaR.weak (by omega),rfl⟩
               ·refine aal [5,10] []<|ag [] [0,2,3,4] (ow 2 16++[.own 1,.own 1,.own 1])<|aac [] 1 (λ X_=>(OM _))<|aae 5 (aaf [] [] [0] (QM mb M (k+1) T S n a b _ hM hS) ?_);rintro _ VK ⟨aaQ,rfl⟩;refine ag [] [6,7,8,9] []<|aae 10 (aag [] (aab 4) λ _=>?_);refine ag [] [11] []<|aad<|ae 1 [] λ _=>aaq (aab 4) [] [0] (v:=.tuple #[vI 0,.agg #[vI 0,vI 0,vI 0,vI 0],.bool false]) (H':=(ap [] [VK])) ?_;refine⟨VK,rfl,?_⟩;exact⟨aaQ.weak (by omega),rfl⟩
               ·refine aal [5,10] []<|ag [] [0,2,3,4] (ow 2 16++[.own 1,.own 1,.own 1])<|aac [] 1 (λ X_=>(ON _))<|aae 5 (aaf [] [] [0] (QN mb M (k+1) T S n a b _ hM hS) ?_);rintro _ T24 ⟨aaP,rfl⟩;refine ag [] [6,7,8,9] []<|aae 10 (aag [] (aab 4) λ _=>?_);refine ag [] [11] []<|aad<|ae 1 [] λ _=>aaq (aab 4) [] [0] (v:=.tuple #[vI 0,.agg #[vI 0,vI 0,vI 0,vI 0],.bool false]) (H':=(ap [] [T24])) ?_;refine⟨T24,rfl,?_⟩;exact⟨aaP.weak (by omega),rfl⟩
               ·refine aal [5,10] []<|ag [] [0,2,3,4] (ow 2 16++[.own 1,.own 1,.own 1])<|aac [] 1 (λ X_=>(OO _))<|aae 5 (aaf [] [] [0] (QO mb M k T S n a b _ hM hS) ?_);rintro _ T26 ⟨amI,rfl⟩;refine ag [] [6,7,8,9] []<|aae 10 (aag [] (aab 4) λ _=>?_);refine ag [] [11] []<|aad<|ae 1 [] λ _=>aaq (aab 4) [] [0] (v:=.tuple #[vI 0,.agg (aaa (da a b M).e).toArray,.bool ((da a b M).em)]) (H':=(ap [] [T26])) ?_;refine⟨T26,rfl,?_⟩;exact⟨amI.weak (by omega),rfl⟩
               ·refine aal [5,10] []<|ag [] [0,2,3,4] (ow 2 16++[.own 1,.own 1,.own 1])<|aac [] 1 (λ X_=>(OP _))<|aae 5 (aaf [] [] [0] (QP mb M (k+2) T S n a b _ hM hS) ?_);rintro _ T28 ⟨afd,rfl⟩;refine ag [] [6,7,8,9] []<|aae 10 (aag [] (aab 4) λ _=>?_);refine ag [] [11] []<|aad<|ae 1 [] λ _=>aaq (aab 4) [] [0] (v:=.tuple #[vI 0,.agg #[vI 0,vI 0,vI 0,vI 0],.bool false]) (H':=(ap [] [T28])) ?_;refine⟨T28,rfl,?_⟩;exact⟨afd.weak (by omega),rfl⟩
theorem IG(mb:Nat)(M:MemS)(k:Nat)(T:HL)(A:Option Addr)(n c:Nat)(e0 e1 e2 a b d:Int)(F:HL)(hM:MemH mb M (k+5) T) :Sp Tryz.prog 204 #[.iface 113 (vP mb 0),.agg #[.slice A n c,vI e0,vI e1,vI e2],vI 0,vI a,vI b,vI d] (ap [] [T]) F (λ u H'=>∃x,H'=ap [] [x] /\ (MemH mb (aU e0 d a b M) k x /\ u=.bool (!(decide (e0<0))))):=by
 refine aav Tryz.func204 rfl mn (A:=[]) (Ts:=[T]) rfl λ w0=>?_;refine ae 28 [.own 0] λ n1=>aam (e0<0) 29 (λ h2=>?_) λ h2=>?_
 ·refine ae 6 [] λ _=>aaq [] [] [0] (v:=.bool false) (H':=(ap [] [T])) ?_;refine⟨T,rfl,?_⟩;refine⟨?_,?_⟩
  ·simp only[aU,if_pos h2];exact hM.weak (by omega)
  ·rw[decide_eq_true h2];rfl
 ·refine ae 4 [] λ _=>aal [8] []<|ag [] [0,1,2,3,5,4,6,7] [.own 0]<|aae 8 (aaf [] [] [0] (al 6 e0 hM) ?_);rintro _ T3 Tf;refine aad<|ae 4 [] λ _=>aaj [] [0] (al 7 0 Tf) ?_;rintro _ T5 UT;refine ae 6 [] λ _=>aaj [] [0] (al 8 d UT) ?_;rintro _ T7 WR;refine ae 6 [] λ _=>aaj [] [0] (al 9 a WR) ?_;rintro _ T9 VC;refine ae 6 [] λ _=>aaj [] [0] (al 10 b VC) ?_;rintro _ Tt TN;refine ae 7 [] λ _=>aaq [] [] [0] (v:=.bool true) (H':=(ap [] [Tt])) ?_;refine⟨Tt,rfl,?_⟩;refine⟨?_,?_⟩
  ·simp only[aU,if_neg h2];exact TN.weak (by omega)
  ·rw[decide_eq_false h2];rfl
theorem IH(mb:Nat)(M:MemS)(k:Nat)(T:HL)(A:Option Addr)(n c:Nat)(e0 e1 e2 a b d:Int)(F:HL)(hM:MemH mb M (k+5) T) :Sp Tryz.prog 204 #[.iface 113 (vP mb 0),.agg #[.slice A n c,vI e0,vI e1,vI e2],vI 1,vI a,vI b,vI d] (ap [] [T]) F (λ u H'=>∃x,H'=ap [] [x] /\ (MemH mb (aU e1 d a b M) k x /\ u=.bool (!(decide (e1<0))))):=by
 refine aav Tryz.func204 rfl mn (A:=[]) (Ts:=[T]) rfl λ w0=>?_;refine ae 28 [.own 0] λ n1=>aam (e1<0) 29 (λ h2=>?_) λ h2=>?_
 ·refine ae 6 [] λ _=>aaq [] [] [0] (v:=.bool false) (H':=(ap [] [T])) ?_;refine⟨T,rfl,?_⟩;refine⟨?_,?_⟩
  ·simp only[aU,if_pos h2];exact hM.weak (by omega)
  ·rw[decide_eq_true h2];rfl
 ·refine ae 4 [] λ _=>aal [8] []<|ag [] [0,1,2,3,5,4,6,7] [.own 0]<|aae 8 (aaf [] [] [0] (al 6 e1 hM) ?_);rintro _ T3 Tf;refine aad<|ae 4 [] λ _=>aaj [] [0] (al 7 0 Tf) ?_;rintro _ T5 UT;refine ae 6 [] λ _=>aaj [] [0] (al 8 d UT) ?_;rintro _ T7 WR;refine ae 6 [] λ _=>aaj [] [0] (al 9 a WR) ?_;rintro _ T9 VC;refine ae 6 [] λ _=>aaj [] [0] (al 10 b VC) ?_;rintro _ Tt TN;refine ae 7 [] λ _=>aaq [] [] [0] (v:=.bool true) (H':=(ap [] [Tt])) ?_;refine⟨Tt,rfl,?_⟩;refine⟨?_,?_⟩
  ·simp only[aU,if_neg h2];exact TN.weak (by omega)
  ·rw[decide_eq_false h2];rfl
theorem II(mb:Nat)(M:MemS)(k:Nat)(T:HL)(A:Option Addr)(n c:Nat)(e0 e1 e2 a b d:Int)(F:HL)(hM:MemH mb M (k+5) T) :Sp Tryz.prog 204 #[.iface 113 (vP mb 0),.agg #[.slice A n c,vI e0,vI e1,vI e2],vI 2,vI a,vI b,vI d] (ap [] [T]) F (λ u H'=>∃x,H'=ap [] [x] /\ (MemH mb (aU e2 d a b M) k x /\ u=.bool (!(decide (e2<0))))):=by
 refine aav Tryz.func204 rfl mn (A:=[]) (Ts:=[T]) rfl λ w0=>?_;refine ae 28 [.own 0] λ n1=>aam (e2<0) 29 (λ h2=>?_) λ h2=>?_
 ·refine ae 6 [] λ _=>aaq [] [] [0] (v:=.bool false) (H':=(ap [] [T])) ?_;refine⟨T,rfl,?_⟩;refine⟨?_,?_⟩
  ·simp only[aU,if_pos h2];exact hM.weak (by omega)
  ·rw[decide_eq_true h2];rfl
 ·refine ae 4 [] λ _=>aal [8] []<|ag [] [0,1,2,3,5,4,6,7] [.own 0]<|aae 8 (aaf [] [] [0] (al 6 e2 hM) ?_);rintro _ T3 Tf;refine aad<|ae 4 [] λ _=>aaj [] [0] (al 7 0 Tf) ?_;rintro _ T5 UT;refine ae 6 [] λ _=>aaj [] [0] (al 8 d UT) ?_;rintro _ T7 WR;refine ae 6 [] λ _=>aaj [] [0] (al 9 a WR) ?_;rintro _ T9 VC;refine ae 6 [] λ _=>aaj [] [0] (al 10 b VC) ?_;rintro _ Tt TN;refine ae 7 [] λ _=>aaq [] [] [0] (v:=.bool true) (H':=(ap [] [Tt])) ?_;refine⟨Tt,rfl,?_⟩;refine⟨?_,?_⟩
  ·simp only[aU,if_neg h2];exact TN.weak (by omega)
  ·rw[decide_eq_false h2];rfl
theorem IJ{op n sp:Int}(h:fU op n sp=true):1 <= op /\ op <= 21:=by
 unfold fU at h
 by_cases h1:op<1
 ·rw[if_pos h1] at h;cases h
 ·rw[if_neg h1] at h
  by_cases h2:op>21
  ·rw[if_pos h2] at h;cases h
  ·omega
theorem Cu(mb:Nat)(M:MemS)(k:Nat)(T:HL)(S:Setup)(code:List Ins)(b R n cc:Nat)(e0 e1 e2:Int)(F:HL)(hM:MemH mb M (k+6) T)(hS:SetN S)(hE:bF F)(hc:(b,.rows 2 R (QC code) 231 (0,0))∈F)(hnR:n <= R)(hn2:n <= 1000000):Sp Tryz.prog 205 #[.iface 113 (vP mb 0),(Setup.v S),.agg #[vS b 0 n cc,vI e0,vI e1,vI e2]] (ap [] [T]) F (λ u H'=>∃x,H'=ap [] [x] /\ (MemH mb ((ao S code n M).M) k x /\ u=.tuple #[.bool (bH code n M),.agg (aaa (ao S code n M).e).toArray,.bool ((ao S code n M).em)])):=by
 refine aav Tryz.func205 rfl (mc hc (mc hE mn)) (A:=[]) (Ts:=[T]) rfl λ w0=>?_;refine ae 22 [] λ n1=>aai (aD 6 hM (ak 0))<|ae 1 [] λ _=>aai (aD 7 hM (ak 0))<|ae 1 [] λ _=>aai (aD 8 hM (ak 0))<|ae 11 [] λ _=>aam (M.get 8<1) 29 (λ h2=>?_) λ h2=>?_
 ·refine ae 31 (aab 4) λ _=>aaq (aab 4) [] [0] (v:=.tuple #[.bool true,.agg #[vI 0,vI 0,vI 0,vI 0],.bool false]) (H':=(ap [] [T])) ?_;refine⟨T,rfl,?_⟩;have hr:¬ eY code n M:=λ TY=>TY.1 h2;refine⟨?_,?_⟩
  ·simp only[ao,bH,if_neg hr];exact hM.weak (by omega)
  ·first|(simp only[ao,bH,if_neg hr];try rfl;done)
 ·refine ae 4 [] λ _=>aam (M.get 6<0) 33 (λ h3=>?_) λ h3=>?_
  ·refine ae 27 (aab 4) λ _=>aaq (aab 4) [] [0] (v:=.tuple #[.bool true,.agg #[vI 0,vI 0,vI 0,vI 0],.bool false]) (H':=(ap [] [T])) ?_;refine⟨T,rfl,?_⟩;have hr:¬ eY code n M:=λ TY=>TY.2.1 h3;refine⟨?_,?_⟩
   ·simp only[ao,bH,if_neg hr];exact hM.weak (by omega)
   ·first|(simp only[ao,bH,if_neg hr];try rfl;done)
  ·refine ae 7 [.own 1] λ _=>aam (M.get 6 >= (n:Int)) 40 (λ h4=>?_) λ h4=>?_
   ·refine ae 20 (aab 4) λ _=>aaq (aab 4) [] [0] (v:=.tuple #[.bool true,.agg #[vI 0,vI 0,vI 0,vI 0],.bool false]) (H':=(ap [] [T])) ?_;refine⟨T,rfl,?_⟩;have hr:¬ eY code n M:=λ TY=>TY.2.2.1 h4;refine⟨?_,?_⟩
    ·simp only[ao,bH,if_neg hr];exact hM.weak (by omega)
    ·first|(simp only[ao,bH,if_neg hr];try rfl;done)
   ·refine ah 6 [.own 1,.ix ((M.get 6).toNat),.rorow 0 ((M.get 6).toNat) 0,.rorow 0 ((M.get 6).toNat) 1] [((0+((M.get 6).toNat)*2)+1)=((M.get 6).toNat)*2+1 /\ ((M.get 6).toNat)<R,(0+((M.get 6).toNat)*2)=((M.get 6).toNat)*2+0 /\ ((M.get 6).toNat)<R,M.get 6=(((M.get 6).toNat:Nat):Int) /\ (M.get 6).toNat<n] λ _=>aai (Mc ((code.getD ((M.get 6).toNat) dIns).op) ((code.getD ((M.get 6).toNat) dIns).n) (M.get 7) _ (aq hE))<|ae 4 [] λ _=>tp (fU ((code.getD ((M.get 6).toNat) dIns).op) ((code.getD ((M.get 6).toNat) dIns).n) (M.get 7)) 49 (λ h5=>?_) λ h5=>?_
    ·have ho:=IJ h5;refine ah 15 [.own 1,.ix ((M.get 6).toNat),.rorow 0 ((M.get 6).toNat) 0,.rorow 0 ((M.get 6).toNat) 1,.own 0,.own 0] [((0+((M.get 6).toNat)*2)+1)=((M.get 6).toNat)*2+1 /\ ((M.get 6).toNat)<R,(0+((M.get 6).toNat)*2)=((M.get 6).toNat)*2+0 /\ ((M.get 6).toNat)<R,M.get 6=(((M.get 6).toNat:Nat):Int) /\ (M.get 6).toNat<n] λ n6=>aal [] []<|av [] [0,5,1,6,2,7,3,8,4,9,10,11] [.own 0,.own 0,.ix (((code.getD ((M.get 6).toNat) dIns).op).toNat),.ix (((code.getD ((M.get 6).toNat) dIns).op).toNat),.rorow 1 (((code.getD ((M.get 6).toNat) dIns).op).toNat) 0,.rorow 1 (((code.getD ((M.get 6).toNat) dIns).op).toNat) 1] [((0+(((code.getD ((M.get 6).toNat) dIns).op).toNat)*3)+1)=(((code.getD ((M.get 6).toNat) dIns).op).toNat)*3+1 /\ (((code.getD ((M.get 6).toNat) dIns).op).toNat)<22,(0+(((code.getD ((M.get 6).toNat) dIns).op).toNat)*3)=(((code.getD ((M.get 6).toNat) dIns).op).toNat)*3+0 /\ (((code.getD ((M.get 6).toNat) dIns).op).toNat)<22,(code.getD ((M.get 6).toNat) dIns).op=((((code.getD ((M.get 6).toNat) dIns).op).toNat:Nat):Int) /\ ((code.getD ((M.get 6).toNat) dIns).op).toNat<22,(code.getD ((M.get 6).toNat) dIns).op=((((code.getD ((M.get 6).toNat) dIns).op).toNat:Nat):Int) /\ ((code.getD ((M.get 6).toNat) dIns).op).toNat<22]<|aad<|ae 38 (aab 4) λ n7=>aam (eP ((code.getD ((M.get 6).toNat) dIns).op)=2) 74 (λ h8=>?_) λ h8=>?_
     ·refine ae 10 [] λ _=>aai (aD (i64.wrap ((i64.wrap ((i64.wrap (16+(M.get 7)))-(eP ((code.getD ((M.get 6).toNat) dIns).op))))+1)) hM (ak 0))<|ae 9 [.own 0] λ _=>aai (aD (i64.wrap ((i64.wrap (16+(M.get 7)))-(eP ((code.getD ((M.get 6).toNat) dIns).op)))) hM (ak 0))<|ae 12 [.own 0] λ _=>aaj [] [0] (al 8 (i64.wrap ((M.get 8)-1)) hM) ?_;rintro _ T9 VC;refine ae 7 [] λ _=>aaj [] [0] (al 6 (i64.wrap ((M.get 6)+1)) VC) ?_;rintro _ Tt TN;refine ae 10 [] λ _=>aan (eP ((code.getD ((M.get 6).toNat) dIns).op)=eQ ((code.getD ((M.get 6).toNat) dIns).op)) 97 (λ Vc=>?_) λ Vc=>?_
      ·refine ae 10 ([.own 1]++ow 4 16++(aab 3)) λ _=>aaj [] [0] (lm mb ((M.set 8 (i64.wrap ((M.get 8)-1))).set 6 (i64.wrap ((M.get 6)+1))) (k+2) Tt S ((code.getD ((M.get 6).toNat) dIns).op) ((code.getD ((M.get 6).toNat) dIns).n) (M.get (i64.wrap ((i64.wrap (16+(M.get 7)))-(eP ((code.getD ((M.get 6).toNat) dIns).op))))) (M.get (i64.wrap ((i64.wrap ((i64.wrap (16+(M.get 7)))-(eP ((code.getD ((M.get 6).toNat) dIns).op))))+1))) _ TN hS (by assumption)) ?_;rintro _ T14 ⟨Yj,rfl⟩;refine ae 16 [.own 2,.own 2,.own 2,.own 2] λ _=>aam (eQ ((code.getD ((M.get 6).toNat) dIns).op)>0) 116 (λ Uw=>?_) λ Uw=>?_
       ·refine ae 8 [] λ _=>aaj [] [0] (al (i64.wrap ((i64.wrap (16+(M.get 7)))-(eP ((code.getD ((M.get 6).toNat) dIns).op)))) ((aJ S ((code.getD ((M.get 6).toNat) dIns).op) ((code.getD ((M.get 6).toNat) dIns).n) (M.get (i64.wrap ((i64.wrap (16+(M.get 7)))-(eP ((code.getD ((M.get 6).toNat) dIns).op))))) (M.get (i64.wrap ((i64.wrap ((i64.wrap (16+(M.get 7)))-(eP ((code.getD ((M.get 6).toNat) dIns).op))))+1))) ((M.set 8 (i64.wrap ((M.get 8)-1))).set 6 (i64.wrap ((M.get 6)+1)))).v) Yj) ?_;rintro _ Us Td;refine ae 3 [] λ _=>aal [6] [0,1,3,4]<|ag [0,1,3,4] [0,3,4,1,2,5] [.own 2,.own 2,.own 2,.own 2,.own 1]<|aae 6 (aag [0,1,3,4] [.own 2,.own 2,.own 2,.own 2] λ _=>?_);refine ag [0,1,3,4] [7] []<|aad<|ae 1 [] λ _=>aaq [.own 2,.own 2,.own 2,.own 2] [] [0] (v:=.tuple #[.bool (decide ((code.getD ((M.get 6).toNat) dIns).op=21)),.agg (aaa (aJ S ((code.getD ((M.get 6).toNat) dIns).op) ((code.getD ((M.get 6).toNat) dIns).n) (M.get (i64.wrap ((i64.wrap (16+(M.get 7)))-(eP ((code.getD ((M.get 6).toNat) dIns).op))))) (M.get (i64.wrap ((i64.wrap ((i64.wrap (16+(M.get 7)))-(eP ((code.getD ((M.get 6).toNat) dIns).op))))+1))) ((M.set 8 (i64.wrap ((M.get 8)-1))).set 6 (i64.wrap ((M.get 6)+1)))).e).toArray,.bool ((aJ S ((code.getD ((M.get 6).toNat) dIns).op) ((code.getD ((M.get 6).toNat) dIns).n) (M.get (i64.wrap ((i64.wrap (16+(M.get 7)))-(eP ((code.getD ((M.get 6).toNat) dIns).op))))) (M.get (i64.wrap ((i64.wrap ((i64.wrap (16+(M.get 7)))-(eP ((code.getD ((M.get 6).toNat) dIns).op))))+1))) ((M.set 8 (i64.wrap ((M.get 8)-1))).set 6 (i64.wrap ((M.get 6)+1)))).em)]) (H':=(ap [] [Us])) ?_;refine⟨Us,rfl,?_⟩;have hr:eY code n M:=⟨h2,h3,h4,h5⟩;refine⟨?_,?_⟩
        ·simp only[ao,bH,if_pos hr,cD,bZ,fe,ff,d8,bE,if_pos h8,if_pos Vc,if_pos Uw];exact Td.weak (by omega)
        ·first|(simp only[ao,bH,if_pos hr,cD,bZ,fe,ff,d8,bE,if_pos h8,if_pos Vc,if_pos Uw];try rfl;done)
       ·refine ae 4 [] λ _=>aal [6] [0,1,3,4]<|ag [0,1,3,4] [0,3,4,1,2,5] [.own 2,.own 2,.own 2,.own 2,.own 1]<|aae 6 (aag [0,1,3,4] [.own 2,.own 2,.own 2,.own 2] λ _=>?_);refine ag [0,1,3,4] [7] []<|aad<|ae 1 [] λ _=>aaq [.own 2,.own 2,.own 2,.own 2] [] [0] (v:=.tuple #[.bool (decide ((code.getD ((M.get 6).toNat) dIns).op=21)),.agg (aaa (aJ S ((code.getD ((M.get 6).toNat) dIns).op) ((code.getD ((M.get 6).toNat) dIns).n) (M.get (i64.wrap ((i64.wrap (16+(M.get 7)))-(eP ((code.getD ((M.get 6).toNat) dIns).op))))) (M.get (i64.wrap ((i64.wrap ((i64.wrap (16+(M.get 7)))-(eP ((code.getD ((M.get 6).toNat) dIns).op))))+1))) ((M.set 8 (i64.wrap ((M.get 8)-1))).set 6 (i64.wrap ((M.get 6)+1)))).e).toArray,.bool ((aJ S ((code.getD ((M.get 6).toNat) dIns).op) ((code.getD ((M.get 6).toNat) dIns).n) (M.get (i64.wrap ((i64.wrap (16+(M.get 7)))-(eP ((code.getD ((M.get 6).toNat) dIns).op))))) (M.get (i64.wrap ((i64.wrap ((i64.wrap (16+(M.get 7)))-(eP ((code.getD ((M.get 6).toNat) dIns).op))))+1))) ((M.set 8 (i64.wrap ((M.get 8)-1))).set 6 (i64.wrap ((M.get 6)+1)))).em)]) (H':=(ap [] [T14])) ?_;refine⟨T14,rfl,?_⟩;have hr:eY code n M:=⟨h2,h3,h4,h5⟩;refine⟨?_,?_⟩
        ·simp only[ao,bH,if_pos hr,cD,bZ,fe,ff,d8,bE,if_pos h8,if_pos Vc,if_neg Uw];exact Yj.weak (by omega)
        ·first|(simp only[ao,bH,if_pos hr,cD,bZ,fe,ff,d8,bE,if_pos h8,if_pos Vc,if_neg Uw];try rfl;done)
      ·refine ae 8 [] λ _=>aaj [] [0] (al 7 (i64.wrap ((i64.wrap ((M.get 7)-(eP ((code.getD ((M.get 6).toNat) dIns).op))))+(eQ ((code.getD ((M.get 6).toNat) dIns).op)))) TN) ?_;rintro _ XM aaS;refine ae 9 ([.own 1]++ow 4 16++(aab 3)) λ _=>aaj [] [0] (lm mb (((M.set 8 (i64.wrap ((M.get 8)-1))).set 6 (i64.wrap ((M.get 6)+1))).set 7 (i64.wrap ((i64.wrap ((M.get 7)-(eP ((code.getD ((M.get 6).toNat) dIns).op))))+(eQ ((code.getD ((M.get 6).toNat) dIns).op))))) (k+1) XM S ((code.getD ((M.get 6).toNat) dIns).op) ((code.getD ((M.get 6).toNat) dIns).n) (M.get (i64.wrap ((i64.wrap (16+(M.get 7)))-(eP ((code.getD ((M.get 6).toNat) dIns).op))))) (M.get (i64.wrap ((i64.wrap ((i64.wrap (16+(M.get 7)))-(eP ((code.getD ((M.get 6).toNat) dIns).op))))+1))) _ aaS hS (by assumption)) ?_;rintro _ T21 ⟨acC,rfl⟩;refine ae 16 [.own 2,.own 2,.own 2,.own 2] λ _=>aam (eQ ((code.getD ((M.get 6).toNat) dIns).op)>0) 116 (λ h23=>?_) λ h23=>?_
       ·refine ae 8 [] λ _=>aaj [] [0] (al (i64.wrap ((i64.wrap (16+(M.get 7)))-(eP ((code.getD ((M.get 6).toNat) dIns).op)))) ((aJ S ((code.getD ((M.get 6).toNat) dIns).op) ((code.getD ((M.get 6).toNat) dIns).n) (M.get (i64.wrap ((i64.wrap (16+(M.get 7)))-(eP ((code.getD ((M.get 6).toNat) dIns).op))))) (M.get (i64.wrap ((i64.wrap ((i64.wrap (16+(M.get 7)))-(eP ((code.getD ((M.get 6).toNat) dIns).op))))+1))) (((M.set 8 (i64.wrap ((M.get 8)-1))).set 6 (i64.wrap ((M.get 6)+1))).set 7 (i64.wrap ((i64.wrap ((M.get 7)-(eP ((code.getD ((M.get 6).toNat) dIns).op))))+(eQ ((code.getD ((M.get 6).toNat) dIns).op)))))).v) acC) ?_;rintro _ T24 aaP;refine ae 3 [] λ _=>aal [6] [0,1,3,4]<|ag [0,1,3,4] [0,3,4,1,2,5] [.own 2,.own 2,.own 2,.own 2,.own 1]<|aae 6 (aag [0,1,3,4] [.own 2,.own 2,.own 2,.own 2] λ _=>?_);refine ag [0,1,3,4] [7] []<|aad<|ae 1 [] λ _=>aaq [.own 2,.own 2,.own 2,.own 2] [] [0] (v:=.tuple #[.bool (decide ((code.getD ((M.get 6).toNat) dIns).op=21)),.agg (aaa (aJ S ((code.getD ((M.get 6).toNat) dIns).op) ((code.getD ((M.get 6).toNat) dIns).n) (M.get (i64.wrap ((i64.wrap (16+(M.get 7)))-(eP ((code.getD ((M.get 6).toNat) dIns).op))))) (M.get (i64.wrap ((i64.wrap ((i64.wrap (16+(M.get 7)))-(eP ((code.getD ((M.get 6).toNat) dIns).op))))+1))) (((M.set 8 (i64.wrap ((M.get 8)-1))).set 6 (i64.wrap ((M.get 6)+1))).set 7 (i64.wrap ((i64.wrap ((M.get 7)-(eP ((code.getD ((M.get 6).toNat) dIns).op))))+(eQ ((code.getD ((M.get 6).toNat) dIns).op)))))).e).toArray,.bool ((aJ S ((code.getD ((M.get 6).toNat) dIns).op) ((code.getD ((M.get 6).toNat) dIns).n) (M.get (i64.wrap ((i64.wrap (16+(M.get 7)))-(eP ((code.getD ((M.get 6).toNat) dIns).op))))) (M.get (i64.wrap ((i64.wrap ((i64.wrap (16+(M.get 7)))-(eP ((code.getD ((M.get 6).toNat) dIns).op))))+1))) (((M.set 8 (i64.wrap ((M.get 8)-1))).set 6 (i64.wrap ((M.get 6)+1))).set 7 (i64.wrap ((i64.wrap ((M.get 7)-(eP ((code.getD ((M.get 6).toNat) dIns).op))))+(eQ ((code.getD ((M.get 6).toNat) dIns).op)))))).em)]) (H':=(ap [] [T24])) ?_;refine⟨T24,rfl,?_⟩;have hr:eY code n M:=⟨h2,h3,h4,h5⟩;refine⟨?_,?_⟩
        ·simp only[ao,bH,if_pos hr,cD,bZ,fe,ff,d8,bE,if_pos h8,if_neg Vc,if_pos h23];exact aaP.weak (by omega)
        ·first|(simp only[ao,bH,if_pos hr,cD,bZ,fe,ff,d8,bE,if_pos h8,if_neg Vc,if_pos h23];try rfl;done)
       ·refine ae 4 [] λ _=>aal [6] [0,1,3,4]<|ag [0,1,3,4] [0,3,4,1,2,5] [.own 2,.own 2,.own 2,.own 2,.own 1]<|aae 6 (aag [0,1,3,4] [.own 2,.own 2,.own 2,.own 2] λ _=>?_);refine ag [0,1,3,4] [7] []<|aad<|ae 1 [] λ _=>aaq [.own 2,.own 2,.own 2,.own 2] [] [0] (v:=.tuple #[.bool (decide ((code.getD ((M.get 6).toNat) dIns).op=21)),.agg (aaa (aJ S ((code.getD ((M.get 6).toNat) dIns).op) ((code.getD ((M.get 6).toNat) dIns).n) (M.get (i64.wrap ((i64.wrap (16+(M.get 7)))-(eP ((code.getD ((M.get 6).toNat) dIns).op))))) (M.get (i64.wrap ((i64.wrap ((i64.wrap (16+(M.get 7)))-(eP ((code.getD ((M.get 6).toNat) dIns).op))))+1))) (((M.set 8 (i64.wrap ((M.get 8)-1))).set 6 (i64.wrap ((M.get 6)+1))).set 7 (i64.wrap ((i64.wrap ((M.get 7)-(eP ((code.getD ((M.get 6).toNat) dIns).op))))+(eQ ((code.getD ((M.get 6).toNat) dIns).op)))))).e).toArray,.bool ((aJ S ((code.getD ((M.get 6).toNat) dIns).op) ((code.getD ((M.get 6).toNat) dIns).n) (M.get (i64.wrap ((i64.wrap (16+(M.get 7)))-(eP ((code.getD ((M.get 6).toNat) dIns).op))))) (M.get (i64.wrap ((i64.wrap ((i64.wrap (16+(M.get 7)))-(eP ((code.getD ((M.get 6).toNat) dIns).op))))+1))) (((M.set 8 (i64.wrap ((M.get 8)-1))).set 6 (i64.wrap ((M.get 6)+1))).set 7 (i64.wrap ((i64.wrap ((M.get 7)-(eP ((code.getD ((M.get 6).toNat) dIns).op))))+(eQ ((code.getD ((M.get 6).toNat) dIns).op)))))).em)]) (H':=(ap [] [T21])) ?_;refine⟨T21,rfl,?_⟩;have hr:eY code n M:=⟨h2,h3,h4,h5⟩;refine⟨?_,?_⟩
        ·simp only[ao,bH,if_pos hr,cD,bZ,fe,ff,d8,bE,if_pos h8,if_neg Vc,if_neg h23];exact acC.weak (by omega)
        ·first|(simp only[ao,bH,if_pos hr,cD,bZ,fe,ff,d8,bE,if_pos h8,if_neg Vc,if_neg h23];try rfl;done)
     ·refine ae 9 [] λ _=>aam (eP ((code.getD ((M.get 6).toNat) dIns).op)=1) 76 (λ Vb=>?_) λ Vb=>?_
      ·refine ae 11 [] λ _=>aai (aD (i64.wrap ((i64.wrap (16+(M.get 7)))-(eP ((code.getD ((M.get 6).toNat) dIns).op)))) hM (ak 0))<|ae 12 [.own 0] λ _=>aaj [] [0] (al 8 (i64.wrap ((M.get 8)-1)) hM) ?_;rintro _ Xy Wb;refine ae 7 [] λ _=>aaj [] [0] (al 6 (i64.wrap ((M.get 6)+1)) Wb) ?_;rintro _ T29 V8;refine ae 10 [] λ _=>aan (eP ((code.getD ((M.get 6).toNat) dIns).op)=eQ ((code.getD ((M.get 6).toNat) dIns).op)) 97 (λ Xw=>?_) λ Xw=>?_
       ·refine ae 10 ([.own 1]++ow 4 16++(aab 3)) λ _=>aaj [] [0] (lm mb ((M.set 8 (i64.wrap ((M.get 8)-1))).set 6 (i64.wrap ((M.get 6)+1))) (k+2) T29 S ((code.getD ((M.get 6).toNat) dIns).op) ((code.getD ((M.get 6).toNat) dIns).n) (M.get (i64.wrap ((i64.wrap (16+(M.get 7)))-(eP ((code.getD ((M.get 6).toNat) dIns).op))))) 0 _ V8 hS (by assumption)) ?_;rintro _ Wn ⟨YX,rfl⟩;refine ae 16 [.own 2,.own 2,.own 2,.own 2] λ _=>aam (eQ ((code.getD ((M.get 6).toNat) dIns).op)>0) 116 (λ h34=>?_) λ h34=>?_
        ·refine ae 8 [] λ _=>aaj [] [0] (al (i64.wrap ((i64.wrap (16+(M.get 7)))-(eP ((code.getD ((M.get 6).toNat) dIns).op)))) ((aJ S ((code.getD ((M.get 6).toNat) dIns).op) ((code.getD ((M.get 6).toNat) dIns).n) (M.get (i64.wrap ((i64.wrap (16+(M.get 7)))-(eP ((code.getD ((M.get 6).toNat) dIns).op))))) 0 ((M.set 8 (i64.wrap ((M.get 8)-1))).set 6 (i64.wrap ((M.get 6)+1)))).v) YX) ?_;rintro _ T35 aaO;refine ae 3 [] λ _=>aal [6] [0,1,3,4]<|ag [0,1,3,4] [0,3,4,1,2,5] [.own 2,.own 2,.own 2,.own 2,.own 1]<|aae 6 (aag [0,1,3,4] [.own 2,.own 2,.own 2,.own 2] λ _=>?_);refine ag [0,1,3,4] [7] []<|aad<|ae 1 [] λ _=>aaq [.own 2,.own 2,.own 2,.own 2] [] [0] (v:=.tuple #[.bool (decide ((code.getD ((M.get 6).toNat) dIns).op=21)),.agg (aaa (aJ S ((code.getD ((M.get 6).toNat) dIns).op) ((code.getD ((M.get 6).toNat) dIns).n) (M.get (i64.wrap ((i64.wrap (16+(M.get 7)))-(eP ((code.getD ((M.get 6).toNat) dIns).op))))) 0 ((M.set 8 (i64.wrap ((M.get 8)-1))).set 6 (i64.wrap ((M.get 6)+1)))).e).toArray,.bool ((aJ S ((code.getD ((M.get 6).toNat) dIns).op) ((code.getD ((M.get 6).toNat) dIns).n) (M.get (i64.wrap ((i64.wrap (16+(M.get 7)))-(eP ((code.getD ((M.get 6).toNat) dIns).op))))) 0 ((M.set 8 (i64.wrap ((M.get 8)-1))).set 6 (i64.wrap ((M.get 6)+1)))).em)]) (H':=(ap [] [T35])) ?_;refine⟨T35,rfl,?_⟩;have hr:eY code n M:=⟨h2,h3,h4,h5⟩;refine⟨?_,?_⟩
         ·simp only[ao,bH,if_pos hr,cD,bZ,fe,ff,d8,bE,if_neg h8,if_pos Vb,if_pos Xw,if_pos h34];exact aaO.weak (by omega)
         ·first|(simp only[ao,bH,if_pos hr,cD,bZ,fe,ff,d8,bE,if_neg h8,if_pos Vb,if_pos Xw,if_pos h34];try rfl;done)
        ·refine ae 4 [] λ _=>aal [6] [0,1,3,4]<|ag [0,1,3,4] [0,3,4,1,2,5] [.own 2,.own 2,.own 2,.own 2,.own 1]<|aae 6 (aag [0,1,3,4] [.own 2,.own 2,.own 2,.own 2] λ _=>?_);refine ag [0,1,3,4] [7] []<|aad<|ae 1 [] λ _=>aaq [.own 2,.own 2,.own 2,.own 2] [] [0] (v:=.tuple #[.bool (decide ((code.getD ((M.get 6).toNat) dIns).op=21)),.agg (aaa (aJ S ((code.getD ((M.get 6).toNat) dIns).op) ((code.getD ((M.get 6).toNat) dIns).n) (M.get (i64.wrap ((i64.wrap (16+(M.get 7)))-(eP ((code.getD ((M.get 6).toNat) dIns).op))))) 0 ((M.set 8 (i64.wrap ((M.get 8)-1))).set 6 (i64.wrap ((M.get 6)+1)))).e).toArray,.bool ((aJ S ((code.getD ((M.get 6).toNat) dIns).op) ((code.getD ((M.get 6).toNat) dIns).n) (M.get (i64.wrap ((i64.wrap (16+(M.get 7)))-(eP ((code.getD ((M.get 6).toNat) dIns).op))))) 0 ((M.set 8 (i64.wrap ((M.get 8)-1))).set 6 (i64.wrap ((M.get 6)+1)))).em)]) (H':=(ap [] [Wn])) ?_;refine⟨Wn,rfl,?_⟩;have hr:eY code n M:=⟨h2,h3,h4,h5⟩;refine⟨?_,?_⟩
         ·simp only[ao,bH,if_pos hr,cD,bZ,fe,ff,d8,bE,if_neg h8,if_pos Vb,if_pos Xw,if_neg h34];exact YX.weak (by omega)
         ·first|(simp only[ao,bH,if_pos hr,cD,bZ,fe,ff,d8,bE,if_neg h8,if_pos Vb,if_pos Xw,if_neg h34];try rfl;done)
       ·refine ae 8 [] λ _=>aaj [] [0] (al 7 (i64.wrap ((i64.wrap ((M.get 7)-(eP ((code.getD ((M.get 6).toNat) dIns).op))))+(eQ ((code.getD ((M.get 6).toNat) dIns).op)))) V8) ?_;rintro _ T37 aaN;refine ae 9 ([.own 1]++ow 4 16++(aab 3)) λ _=>aaj [] [0] (lm mb (((M.set 8 (i64.wrap ((M.get 8)-1))).set 6 (i64.wrap ((M.get 6)+1))).set 7 (i64.wrap ((i64.wrap ((M.get 7)-(eP ((code.getD ((M.get 6).toNat) dIns).op))))+(eQ ((code.getD ((M.get 6).toNat) dIns).op))))) (k+1) T37 S ((code.getD ((M.get 6).toNat) dIns).op) ((code.getD ((M.get 6).toNat) dIns).n) (M.get (i64.wrap ((i64.wrap (16+(M.get 7)))-(eP ((code.getD ((M.get 6).toNat) dIns).op))))) 0 _ aaN hS (by assumption)) ?_;rintro _ T39 ⟨WK,rfl⟩;refine ae 16 [.own 2,.own 2,.own 2,.own 2] λ _=>aam (eQ ((code.getD ((M.get 6).toNat) dIns).op)>0) 116 (λ UX=>?_) λ UX=>?_
        ·refine ae 8 [] λ _=>aaj [] [0] (al (i64.wrap ((i64.wrap (16+(M.get 7)))-(eP ((code.getD ((M.get 6).toNat) dIns).op)))) ((aJ S ((code.getD ((M.get 6).toNat) dIns).op) ((code.getD ((M.get 6).toNat) dIns).n) (M.get (i64.wrap ((i64.wrap (16+(M.get 7)))-(eP ((code.getD ((M.get 6).toNat) dIns).op))))) 0 (((M.set 8 (i64.wrap ((M.get 8)-1))).set 6 (i64.wrap ((M.get 6)+1))).set 7 (i64.wrap ((i64.wrap ((M.get 7)-(eP ((code.getD ((M.get 6).toNat) dIns).op))))+(eQ ((code.getD ((M.get 6).toNat) dIns).op)))))).v) WK) ?_;rintro _ T42 aaM;refine ae 3 [] λ _=>aal [6] [0,1,3,4]<|ag [0,1,3,4] [0,3,4,1,2,5] [.own 2,.own 2,.own 2,.own 2,.own 1]<|aae 6 (aag [0,1,3,4] [.own 2,.own 2,.own 2,.own 2] λ _=>?_);refine ag [0,1,3,4] [7] []<|aad<|ae 1 [] λ _=>aaq [.own 2,.own 2,.own 2,.own 2] [] [0] (v:=.tuple #[.bool (decide ((code.getD ((M.get 6).toNat) dIns).op=21)),.agg (aaa (aJ S ((code.getD ((M.get 6).toNat) dIns).op) ((code.getD ((M.get 6).toNat) dIns).n) (M.get (i64.wrap ((i64.wrap (16+(M.get 7)))-(eP ((code.getD ((M.get 6).toNat) dIns).op))))) 0 (((M.set 8 (i64.wrap ((M.get 8)-1))).set 6 (i64.wrap ((M.get 6)+1))).set 7 (i64.wrap ((i64.wrap ((M.get 7)-(eP ((code.getD ((M.get 6).toNat) dIns).op))))+(eQ ((code.getD ((M.get 6).toNat) dIns).op)))))).e).toArray,.bool ((aJ S ((code.getD ((M.get 6).toNat) dIns).op) ((code.getD ((M.get 6).toNat) dIns).n) (M.get (i64.wrap ((i64.wrap (16+(M.get 7)))-(eP ((code.getD ((M.get 6).toNat) dIns).op))))) 0 (((M.set 8 (i64.wrap ((M.get 8)-1))).set 6 (i64.wrap ((M.get 6)+1))).set 7 (i64.wrap ((i64.wrap ((M.get 7)-(eP ((code.getD ((M.get 6).toNat) dIns).op))))+(eQ ((code.getD ((M.get 6).toNat) dIns).op)))))).em)]) (H':=(ap [] [T42])) ?_;refine⟨T42,rfl,?_⟩;have hr:eY code n M:=⟨h2,h3,h4,h5⟩;refine⟨?_,?_⟩
         ·simp only[ao,bH,if_pos hr,cD,bZ,fe,ff,d8,bE,if_neg h8,if_pos Vb,if_neg Xw,if_pos UX];exact aaM.weak (by omega)
         ·first|(simp only[ao,bH,if_pos hr,cD,bZ,fe,ff,d8,bE,if_neg h8,if_pos Vb,if_neg Xw,if_pos UX];try rfl;done)
        ·refine ae 4 [] λ _=>aal [6] [0,1,3,4]<|ag [0,1,3,4] [0,3,4,1,2,5] [.own 2,.own 2,.own 2,.own 2,.own 1]<|aae 6 (aag [0,1,3,4] [.own 2,.own 2,.own 2,.own 2] λ _=>?_);refine ag [0,1,3,4] [7] []<|aad<|ae 1 [] λ _=>aaq [.own 2,.own 2,.own 2,.own 2] [] [0] (v:=.tuple #[.bool (decide ((code.getD ((M.get 6).toNat) dIns).op=21)),.agg (aaa (aJ S ((code.getD ((M.get 6).toNat) dIns).op) ((code.getD ((M.get 6).toNat) dIns).n) (M.get (i64.wrap ((i64.wrap (16+(M.get 7)))-(eP ((code.getD ((M.get 6).toNat) dIns).op))))) 0 (((M.set 8 (i64.wrap ((M.get 8)-1))).set 6 (i64.wrap ((M.get 6)+1))).set 7 (i64.wrap ((i64.wrap ((M.get 7)-(eP ((code.getD ((M.get 6).toNat) dIns).op))))+(eQ ((code.getD ((M.get 6).toNat) dIns).op)))))).e).toArray,.bool ((aJ S ((code.getD ((M.get 6).toNat) dIns).op) ((code.getD ((M.get 6).toNat) dIns).n) (M.get (i64.wrap ((i64.wrap (16+(M.get 7)))-(eP ((code.getD ((M.get 6).toNat) dIns).op))))) 0 (((M.set 8 (i64.wrap ((M.get 8)-1))).set 6 (i64.wrap ((M.get 6)+1))).set 7 (i64.wrap ((i64.wrap ((M.get 7)-(eP ((code.getD ((M.get 6).toNat) dIns).op))))+(eQ ((code.getD ((M.get 6).toNat) dIns).op)))))).em)]) (H':=(ap [] [T39])) ?_;refine⟨T39,rfl,?_⟩;have hr:eY code n M:=⟨h2,h3,h4,h5⟩;refine⟨?_,?_⟩
         ·simp only[ao,bH,if_pos hr,cD,bZ,fe,ff,d8,bE,if_neg h8,if_pos Vb,if_neg Xw,if_neg UX];exact WK.weak (by omega)
         ·first|(simp only[ao,bH,if_pos hr,cD,bZ,fe,ff,d8,bE,if_neg h8,if_pos Vb,if_neg Xw,if_neg UX];try rfl;done)
      ·refine ae 15 [] λ _=>aaj [] [0] (al 8 (i64.wrap ((M.get 8)-1)) hM) ?_;rintro _ T44 aaL;refine ae 7 [] λ _=>aaj [] [0] (al 6 (i64.wrap ((M.get 6)+1)) aaL) ?_;rintro _ T46 ain;refine ae 10 [] λ _=>aan (eP ((code.getD ((M.get 6).toNat) dIns).op)=eQ ((code.getD ((M.get 6).toNat) dIns).op)) 97 (λ Yo=>?_) λ Yo=>?_
       ·refine ae 10 ([.own 1]++ow 4 16++(aab 3)) λ _=>aaj [] [0] (lm mb ((M.set 8 (i64.wrap ((M.get 8)-1))).set 6 (i64.wrap ((M.get 6)+1))) (k+2) T46 S ((code.getD ((M.get 6).toNat) dIns).op) ((code.getD ((M.get 6).toNat) dIns).n) 0 0 _ ain hS (by assumption)) ?_;rintro _ T49 ⟨WJ,rfl⟩;refine ae 16 [.own 2,.own 2,.own 2,.own 2] λ _=>aam (eQ ((code.getD ((M.get 6).toNat) dIns).op)>0) 116 (λ Xv=>?_) λ Xv=>?_
        ·refine ae 8 [] λ _=>aaj [] [0] (al (i64.wrap ((i64.wrap (16+(M.get 7)))-(eP ((code.getD ((M.get 6).toNat) dIns).op)))) ((aJ S ((code.getD ((M.get 6).toNat) dIns).op) ((code.getD ((M.get 6).toNat) dIns).n) 0 0 ((M.set 8 (i64.wrap ((M.get 8)-1))).set 6 (i64.wrap ((M.get 6)+1)))).v) WJ) ?_;rintro _ T52 aaK;refine ae 3 [] λ _=>aal [6] [0,1,3,4]<|ag [0,1,3,4] [0,3,4,1,2,5] [.own 2,.own 2,.own 2,.own 2,.own 1]<|aae 6 (aag [0,1,3,4] [.own 2,.own 2,.own 2,.own 2] λ _=>?_);refine ag [0,1,3,4] [7] []<|aad<|ae 1 [] λ _=>aaq [.own 2,.own 2,.own 2,.own 2] [] [0] (v:=.tuple #[.bool (decide ((code.getD ((M.get 6).toNat) dIns).op=21)),.agg (aaa (aJ S ((code.getD ((M.get 6).toNat) dIns).op) ((code.getD ((M.get 6).toNat) dIns).n) 0 0 ((M.set 8 (i64.wrap ((M.get 8)-1))).set 6 (i64.wrap ((M.get 6)+1)))).e).toArray,.bool ((aJ S ((code.getD ((M.get 6).toNat) dIns).op) ((code.getD ((M.get 6).toNat) dIns).n) 0 0 ((M.set 8 (i64.wrap ((M.get 8)-1))).set 6 (i64.wrap ((M.get 6)+1)))).em)]) (H':=(ap [] [T52])) ?_;refine⟨T52,rfl,?_⟩;have hr:eY code n M:=⟨h2,h3,h4,h5⟩;refine⟨?_,?_⟩
         ·simp only[ao,bH,if_pos hr,cD,bZ,fe,ff,d8,bE,if_neg h8,if_neg Vb,if_pos Yo,if_pos Xv];exact aaK.weak (by omega)
         ·first|(simp only[ao,bH,if_pos hr,cD,bZ,fe,ff,d8,bE,if_neg h8,if_neg Vb,if_pos Yo,if_pos Xv];try rfl;done)
        ·refine ae 4 [] λ _=>aal [6] [0,1,3,4]<|ag [0,1,3,4] [0,3,4,1,2,5] [.own 2,.own 2,.own 2,.own 2,.own 1]<|aae 6 (aag [0,1,3,4] [.own 2,.own 2,.own 2,.own 2] λ _=>?_);refine ag [0,1,3,4] [7] []<|aad<|ae 1 [] λ _=>aaq [.own 2,.own 2,.own 2,.own 2] [] [0] (v:=.tuple #[.bool (decide ((code.getD ((M.get 6).toNat) dIns).op=21)),.agg (aaa (aJ S ((code.getD ((M.get 6).toNat) dIns).op) ((code.getD ((M.get 6).toNat) dIns).n) 0 0 ((M.set 8 (i64.wrap ((M.get 8)-1))).set 6 (i64.wrap ((M.get 6)+1)))).e).toArray,.bool ((aJ S ((code.getD ((M.get 6).toNat) dIns).op) ((code.getD ((M.get 6).toNat) dIns).n) 0 0 ((M.set 8 (i64.wrap ((M.get 8)-1))).set 6 (i64.wrap ((M.get 6)+1)))).em)]) (H':=(ap [] [T49])) ?_;refine⟨T49,rfl,?_⟩;have hr:eY code n M:=⟨h2,h3,h4,h5⟩;refine⟨?_,?_⟩
         ·simp only[ao,bH,if_pos hr,cD,bZ,fe,ff,d8,bE,if_neg h8,if_neg Vb,if_pos Yo,if_neg Xv];exact WJ.weak (by omega)
         ·first|(simp only[ao,bH,if_pos hr,cD,bZ,fe,ff,d8,bE,if_neg h8,if_neg Vb,if_pos Yo,if_neg Xv];try rfl;done)
       ·refine ae 8 [] λ _=>aaj [] [0] (al 7 (i64.wrap ((i64.wrap ((M.get 7)-(eP ((code.getD ((M.get 6).toNat) dIns).op))))+(eQ ((code.getD ((M.get 6).toNat) dIns).op)))) ain) ?_;rintro _ T54 aaJ;refine ae 9 ([.own 1]++ow 4 16++(aab 3)) λ _=>aaj [] [0] (lm mb (((M.set 8 (i64.wrap ((M.get 8)-1))).set 6 (i64.wrap ((M.get 6)+1))).set 7 (i64.wrap ((i64.wrap ((M.get 7)-(eP ((code.getD ((M.get 6).toNat) dIns).op))))+(eQ ((code.getD ((M.get 6).toNat) dIns).op))))) (k+1) T54 S ((code.getD ((M.get 6).toNat) dIns).op) ((code.getD ((M.get 6).toNat) dIns).n) 0 0 _ aaJ hS (by assumption)) ?_;rintro _ T56 ⟨acA,rfl⟩;refine ae 16 [.own 2,.own 2,.own 2,.own 2] λ _=>aam (eQ ((code.getD ((M.get 6).toNat) dIns).op)>0) 116 (λ h58=>?_) λ h58=>?_
        ·refine ae 8 [] λ _=>aaj [] [0] (al (i64.wrap ((i64.wrap (16+(M.get 7)))-(eP ((code.getD ((M.get 6).toNat) dIns).op)))) ((aJ S ((code.getD ((M.get 6).toNat) dIns).op) ((code.getD ((M.get 6).toNat) dIns).n) 0 0 (((M.set 8 (i64.wrap ((M.get 8)-1))).set 6 (i64.wrap ((M.get 6)+1))).set 7 (i64.wrap ((i64.wrap ((M.get 7)-(eP ((code.getD ((M.get 6).toNat) dIns).op))))+(eQ ((code.getD ((M.get 6).toNat) dIns).op)))))).v) acA) ?_;rintro _ T59 afb;refine ae 3 [] λ _=>aal [6] [0,1,3,4]<|ag [0,1,3,4] [0,3,4,1,2,5] [.own 2,.own 2,.own 2,.own 2,.own 1]<|aae 6 (aag [0,1,3,4] [.own 2,.own 2,.own 2,.own 2] λ _=>?_);refine ag [0,1,3,4] [7] []<|aad<|ae 1 [] λ _=>aaq [.own 2,.own 2,.own 2,.own 2] [] [0] (v:=.tuple #[.bool (decide ((code.getD ((M.get 6).toNat) dIns).op=21)),.agg (aaa (aJ S ((code.getD ((M.get 6).toNat) dIns).op) ((code.getD ((M.get 6).toNat) dIns).n) 0 0 (((M.set 8 (i64.wrap ((M.get 8)-1))).set 6 (i64.wrap ((M.get 6)+1))).set 7 (i64.wrap ((i64.wrap ((M.get 7)-(eP ((code.getD ((M.get 6).toNat) dIns).op))))+(eQ ((code.getD ((M.get 6).toNat) dIns).op)))))).e).toArray,.bool ((aJ S ((code.getD ((M.get 6).toNat) dIns).op) ((code.getD ((M.get 6).toNat) dIns).n) 0 0 (((M.set 8 (i64.wrap ((M.get 8)-1))).set 6 (i64.wrap ((M.get 6)+1))).set 7 (i64.wrap ((i64.wrap ((M.get 7)-(eP ((code.getD ((M.get 6).toNat) dIns).op))))+(eQ ((code.getD ((M.get 6).toNat) dIns).op)))))).em)]) (H':=(ap [] [T59])) ?_;refine⟨T59,rfl,?_⟩;have hr:eY code n M:=⟨h2,h3,h4,h5⟩;refine⟨?_,?_⟩
         ·simp only[ao,bH,if_pos hr,cD,bZ,fe,ff,d8,bE,if_neg h8,if_neg Vb,if_neg Yo,if_pos h58];exact afb.weak (by omega)
         ·first|(simp only[ao,bH,if_pos hr,cD,bZ,fe,ff,d8,bE,if_neg h8,if_neg Vb,if_neg Yo,if_pos h58];try rfl;done)
        ·refine ae 4 [] λ _=>aal [6] [0,1,3,4]<|ag [0,1,3,4] [0,3,4,1,2,5] [.own 2,.own 2,.own 2,.own 2,.own 1]<|aae 6 (aag [0,1,3,4] [.own 2,.own 2,.own 2,.own 2] λ _=>?_);refine ag [0,1,3,4] [7] []<|aad<|ae 1 [] λ _=>aaq [.own 2,.own 2,.own 2,.own 2] [] [0] (v:=.tuple #[.bool (decide ((code.getD ((M.get 6).toNat) dIns).op=21)),.agg (aaa (aJ S ((code.getD ((M.get 6).toNat) dIns).op) ((code.getD ((M.get 6).toNat) dIns).n) 0 0 (((M.set 8 (i64.wrap ((M.get 8)-1))).set 6 (i64.wrap ((M.get 6)+1))).set 7 (i64.wrap ((i64.wrap ((M.get 7)-(eP ((code.getD ((M.get 6).toNat) dIns).op))))+(eQ ((code.getD ((M.get 6).toNat) dIns).op)))))).e).toArray,.bool ((aJ S ((code.getD ((M.get 6).toNat) dIns).op) ((code.getD ((M.get 6).toNat) dIns).n) 0 0 (((M.set 8 (i64.wrap ((M.get 8)-1))).set 6 (i64.wrap ((M.get 6)+1))).set 7 (i64.wrap ((i64.wrap ((M.get 7)-(eP ((code.getD ((M.get 6).toNat) dIns).op))))+(eQ ((code.getD ((M.get 6).toNat) dIns).op)))))).em)]) (H':=(ap [] [T56])) ?_;refine⟨T56,rfl,?_⟩;have hr:eY code n M:=⟨h2,h3,h4,h5⟩;refine⟨?_,?_⟩
         ·simp only[ao,bH,if_pos hr,cD,bZ,fe,ff,d8,bE,if_neg h8,if_neg Vb,if_neg Yo,if_neg h58];exact acA.weak (by omega)
         ·first|(simp only[ao,bH,if_pos hr,cD,bZ,fe,ff,d8,bE,if_neg h8,if_neg Vb,if_neg Yo,if_neg h58];try rfl;done)
    ·refine ae 9 (aab 4) λ _=>aaq (aab 4) [] [0] (v:=.tuple #[.bool true,.agg #[vI 0,vI 0,vI 0,vI 0],.bool false]) (H':=(ap [] [T])) ?_;refine⟨T,rfl,?_⟩;have hr:¬ eY code n M:=λ TY=>h5 TY.2.2.2;refine⟨?_,?_⟩
     ·simp only[ao,bH,if_neg hr];exact hM.weak (by omega)
     ·first|(simp only[ao,bH,if_neg hr];try rfl;done)
theorem FV(mb:Nat)(M:MemS)(k:Nat)(T:HL)(S:Setup)(code:List Ins)(A:Option Addr)(cc:Nat)(e0 e1 e2:Int)(F:HL)(hM:MemH mb M (k+6) T) :Sp Tryz.prog 205 #[.iface 113 (vP mb 0),(Setup.v S),.agg #[.slice A 0 cc,vI e0,vI e1,vI e2]] (ap [] [T]) F (λ u H'=>∃x,H'=ap [] [x] /\ (MemH mb ((ao S code 0 M).M) k x /\ u=.tuple #[.bool (bH code 0 M),.agg (aaa (ao S code 0 M).e).toArray,.bool ((ao S code 0 M).em)])):=by
 refine aav Tryz.func205 rfl mn (A:=[]) (Ts:=[T]) rfl λ w0=>?_;refine ae 22 [] λ n1=>aai (aD 6 hM (ak 0))<|ae 1 [] λ _=>aai (aD 7 hM (ak 0))<|ae 1 [] λ _=>aai (aD 8 hM (ak 0))<|ae 11 [] λ _=>aam (M.get 8<1) 29 (λ h2=>?_) λ h2=>?_
 ·refine ae 31 (aab 4) λ _=>aaq (aab 4) [] [0] (v:=.tuple #[.bool true,.agg #[vI 0,vI 0,vI 0,vI 0],.bool false]) (H':=(ap [] [T])) ?_;refine⟨T,rfl,?_⟩;have hr:¬ eY code 0 M:=λ TY=>TY.1 h2;refine⟨?_,?_⟩
  ·simp only[ao,bH,if_neg hr];exact hM.weak (by omega)
  ·first|(simp only[ao,bH,if_neg hr];try rfl;done)
 ·refine ae 4 [] λ _=>aam (M.get 6<0) 33 (λ h3=>?_) λ h3=>?_
  ·refine ae 27 (aab 4) λ _=>aaq (aab 4) [] [0] (v:=.tuple #[.bool true,.agg #[vI 0,vI 0,vI 0,vI 0],.bool false]) (H':=(ap [] [T])) ?_;refine⟨T,rfl,?_⟩;have hr:¬ eY code 0 M:=λ TY=>TY.2.1 h3;refine⟨?_,?_⟩
   ·simp only[ao,bH,if_neg hr];exact hM.weak (by omega)
   ·first|(simp only[ao,bH,if_neg hr];try rfl;done)
  ·refine ae 7 [.own 1] λ _=>aam (M.get 6 >= 0) 40 (λ h4=>?_) λ h4=>?_
   ·refine ae 20 (aab 4) λ _=>aaq (aab 4) [] [0] (v:=.tuple #[.bool true,.agg #[vI 0,vI 0,vI 0,vI 0],.bool false]) (H':=(ap [] [T])) ?_;refine⟨T,rfl,?_⟩;have hr:¬ eY code 0 M:=λ TY=>TY.2.2.1 (by simpa using h4);refine⟨?_,?_⟩
    ·simp only[ao,bH,if_neg hr];exact hM.weak (by omega)
    ·first|(simp only[ao,bH,if_neg hr];try rfl;done)
   ·exact absurd (show M.get 6 >= 0 by omega) h4
theorem jP(mb:Nat)(M:MemS)(k:Nat)(T:HL)(S:Setup)(code:List Ins)(A:Option Addr)(n cc:Nat)(e0 e1 e2:Int)(F:HL)(hM:MemH mb M (k+6) T)(hS:SetN S)(hE:bF F)(hc:CodeIn F code A n):Sp Tryz.prog 205 #[.iface 113 (vP mb 0),(Setup.v S),.agg #[.slice A n cc,vI e0,vI e1,vI e2]] (ap [] [T]) F (λ u H'=>∃x,H'=ap [] [x] /\ (MemH mb (ao S code n M).M k x /\ u=.tuple #[.bool (bH code n M),.agg (aaa (ao S code n M).e).toArray,.bool ((ao S code n M).em)])):=by
 cases hc with
 | nil=>exact FV mb M k T S code A cc e0 e1 e2 F hM
 | mk b R n h h1 h2=>exact Cu mb M k T S code b R n cc e0 e1 e2 F hM hS hE h h1 h2
end Go.Proofs.YtdppjkjbghbnjaaGreatDoor
