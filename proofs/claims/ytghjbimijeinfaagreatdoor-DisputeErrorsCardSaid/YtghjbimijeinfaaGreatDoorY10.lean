import Derived.Test.YtghjbimijeinfaaGreatDoorY09
import Derived.Test.YtghjbimijeinfaaGreatDoorY08
set_option maxHeartbeats 4000000
set_option maxRecDepth 100000
set_option linter.unusedSimpArgs false
set_option linter.unusedVariables false
namespace Go.Proofs.YtghjbimijeinfaaGreatDoor
open Go.RowKit
def J7 (a b:Int):Int:=IntKind.u64.wrap ((BitVec.ofInt 64 a ^^^ BitVec.ofInt 64 b).toNat:Int)
def orU (a b:Int):Int:=IntKind.u64.wrap ((BitVec.ofInt 64 a ||| BitVec.ofInt 64 b).toNat:Int)
def uY (a b:Int):Int:=J7 (IntKind.u64.wrap (J7 a b * 11400714819323198485)) ((IntKind.u64.wrap (J7 a b * 11400714819323198485)).fdiv 4294967296)
def se (b:ByteArray) (i:Nat):Nat -> Int
 | 0=>0
 | k+1=>orU (se b i k) (IntKind.u64.wrap (IntKind.u64.wrap (CT b (8 * i+k)) * 2 ^ min (8 * (k:Int)).toNat 64))
def wk (b:ByteArray) (i:Nat):Nat:=min 8 (b.size - 8 * i)
def wn (b:ByteArray):Nat:=(b.size+7) / 8
def gD (b:ByteArray):List Int:=(List.range (wn b)).map λ i=>se b i (wk b i)
theorem xD (b:ByteArray):(gD b).length=wn b:=by simp [gD]
theorem pS {b:ByteArray} {i:Nat} (h:8 * i < b.size):(gD b)[i]?=some (se b i (wk b i)):=by
 have:i < wn b:=by unfold wn;omega
 simp [gD,this]
def jb (b:ByteArray):Nat -> Int
 | 0=>0
 | m+1=>uY (jb b m) ((gD b).getD m 0)
def nE (b:ByteArray) (n:Int):Int:=uY (uY (jb b (gD b).length) (IntKind.u64.wrap (b.size:Int))) (IntKind.u64.wrap n)
def Dn (s:Int) (xs:List Int):Nat -> Int
 | 0=>s
 | k+1=>uY (Dn s xs k) (IntKind.u64.wrap (xs.getD k 0))
def tM (b:ByteArray) (xs:List Int):Int:=uY (Dn (nE b xs.length) xs xs.length) 0
abbrev L8 (x:Int):Array Value:=#[.int .u64 x]
theorem Dp {xs:List Int} {i:Nat} {x:Int} (h:xs[i]?=some x):xs.getD i 0=x:=by rw [List.getD_eq_getElem?_getD,h];rfl
theorem lj (a b:Int) (F:HL):Sp Tryz.prog 180 #[.int .u64 a,.int .u64 b] [] F (λ u H'=>u=.int .u64 (uY a b) /\ H'=[]):=by
 refine Sp.run Tryz.func180 rfl mn (A:=[]) (Ts:=[]) rfl λ w0=>?_
 refine ae 23 [] λ _=>?_
 exact RN.ret [] [] [] ⟨rfl,rfl⟩
theorem Bl (b:ByteArray) (q lp:Nat) (X F:HL) (J:Nat -> HL -> Prop) (Jx:HL -> Prop) (T0:HL) (hb:b.size <= 1000000) (hq:(q,.lit [.string b] 9 (0,0)) ∈ F) (hY:∀ i x H Y,(gD b)[i]?=some x -> J i H -> YL Tryz.prog lp (L8 x) H (Y++(X++F)) (λ b H'=>(b=true /\ J (i+1) H') \/ (b=false /\ Jx H'))) (hJ0:J 0 T0):Sp Tryz.prog 271 #[.func (.yield lp) #[] #[],vP q 0] (ap [] [T0]) (X++F) (λ _ H'=>J (gD b).length H' \/ Jx H'):=by
 refine Sp.run Tryz.func271 rfl (mc (List.mem_append_right _ hq) mn) (A:=[]) (Ts:=[T0]) rfl λ w0=>?_
 refine ae 6 [] λ _=>RN.loop (σ:=Nat × HL) (λ ⟨i,T_⟩=>⟨[(0,.func (.yield lp) #[] #[]),(1,vP q 0),(3,vI (8 * (i:Int)))],[],[T_],i <= wn b /\ J i T_,wn b - i⟩) (0,T0) [] [0] (⟨Nat.zero_le _,hJ0⟩) ?_
 rintro ⟨i,T_⟩ ⟨hi_,hJ_⟩ mt2
 refine ae 9 [.ro 0] λ _=>RN.em (8 * (i:Int) < ((b).size:Int)) 9 (λ h3=>?_) λ h3=>?_
 ·refine ae 17 [] λ _=>RN.loop (σ:=Nat) (λ k=>⟨[(0,.func (.yield lp) #[] #[]),(1,vP q 0),(3,vI (8 * (i:Int))),(4,.int .u64 (se b i k)),(5,vI (k:Int))],[],[T_],k <= 8 /\ 8 * i+k <= b.size,8 - k⟩) 0 [] [0] (⟨by omega,by omega⟩) ?_
  rintro k ⟨hk_,hk2_⟩ mt5
  refine ae 6 [] λ _=>RN.em ((k:Int) < 8) 14 (λ h6=>?_) λ h6=>?_
  ·refine al 9 [.nw,.ro 0] [br ((8 * (i:Int))+(k:Int))] λ _=>RN.em ((8 * (i:Int))+(k:Int) < ((b).size:Int)) 21 (λ h7=>?_) λ h7=>?_
   ·refine al 26 [.ro 0,.nw,.ix (8 * i+k),.nw,.dv,.gen,.nw] [br ((k:Int)+1),0 <= 8 * (k:Int),br (8 * (k:Int)),(8 * (i:Int))+(k:Int)=(((8 * i+k):Nat):Int) /\ (8 * i+k) < (b).size,br ((8 * (i:Int))+(k:Int))] λ _=>?_
    refine mt5 (k+1) [] [0] ?_
    try dsimp only
    exact ⟨⟨by omega,by omega⟩,by omega⟩
   ·obtain rfl:k=wk b i:=by unfold wk;omega
    refine ae 10 [] λ _=>RN.yield 0 (hY i (se b i (wk b i)) _ _ (pS (by omega)) hJ_) ?_
    rintro b_ T8 (⟨rfl,hJ9⟩ | ⟨rfl,hJ9⟩)
    ·refine al 12 [.gen,.nw] [br ((8 * (i:Int))+8)] λ _=>bn 3 (congrArg (λ v_=>(vI v_:Value)) (show (8 * (i:Int)+8)=8 * ((i+1:Nat):Int) by omega)) ?_
     refine mt2 (i+1,T8) [] [0] ?_
     try dsimp only
     exact ⟨⟨by unfold wn at *;omega,hJ9⟩,by unfold wn at *;omega⟩
    ·refine ae 4 [] λ _=>RN.ret [] [] [0] (v:=.tuple #[]) (H':=(ap [] [T8])) ?_
     rw [cU]
     exact .inr hJ9
  ·obtain rfl:k=wk b i:=by unfold wk;omega
   refine ae 19 [] λ _=>RN.yield 0 (hY i (se b i (wk b i)) _ _ (pS (by omega)) hJ_) ?_
   rintro b_ T10 (⟨rfl,hJ11⟩ | ⟨rfl,hJ11⟩)
   ·refine al 12 [.gen,.nw] [br ((8 * (i:Int))+8)] λ _=>bn 3 (congrArg (λ v_=>(vI v_:Value)) (show (8 * (i:Int)+8)=8 * ((i+1:Nat):Int) by omega)) ?_
    refine mt2 (i+1,T10) [] [0] ?_
    try dsimp only
    exact ⟨⟨by unfold wn at *;omega,hJ11⟩,by unfold wn at *;omega⟩
   ·refine ae 4 [] λ _=>RN.ret [] [] [0] (v:=.tuple #[]) (H':=(ap [] [T10])) ?_
    rw [cU]
    exact .inr hJ11
 ·obtain rfl:i=wn b:=by unfold wn at *;omega
  refine ae 5 [] λ _=>RN.ret [] [] [0] (v:=.tuple #[]) (H':=(ap [] [T_])) ?_
  rw [cU]
  exact .inl (by rw [xD];exact hJ_)
theorem Dq (b:ByteArray) (q:Nat) (F:HL) (hb:b.size <= 1000000) (hq:(q,.lit [.string b] 9 (0,0)) ∈ F):It Tryz.prog 271 #[vP q 0] F L8 (gD b):=by
 intro X l J Jx H0 hY h0
 have key:=Bl b q l X F J Jx H0 hb hq hY h0
 rw [cU] at key
 exact key
theorem Bm (b:ByteArray) (F:HL):Sp Tryz.prog 242 #[.string b] [] F (λ u H'=>∃ n:Nat,H'=ap [((n+0),.lit [.string b] 9 (0,0))] [] /\ u=.func (.func 271) #[] #[vP (n+0) 0]):=by
 refine Sp.run Tryz.func242 rfl mn (A:=[]) (Ts:=[]) rfl λ w0=>?_
 refine ae 12 [] λ n1=>RN.ret [] [0] [] (v:=.func (.func 271) #[] #[vP (n1+0) 0]) (H':=(ap [((n1+0),.lit [.string b] 9 (0,0))] [])) ?_
 exact ⟨_,rfl,rfl⟩
theorem Ds (b:ByteArray) (F:HL):Sp Tryz.prog 242 #[.string b] (ap [] []) F (λ u H'=>∃ n:Nat,H'=ap [((n+0),.lit [.string b] 9 (0,0))] [] /\ u=.func (.func 271) #[] #[vP (n+0) 0]):=Bm b F
theorem pT (b:ByteArray) (n:Int) (F:HL) (hb:b.size <= 1000000):Sp Tryz.prog 179 #[.string b,vI n] [] F (λ u H'=>u=.int .u64 (nE b n) /\ H'=[]):=by
 refine Sp.runM Tryz.func179 rfl mn (A:=[]) (Ts:=[]) rfl λ w0=>?_
 refine ae 14 [] λ n1=>RN.ct (Hp:=[]) (Tp:=[]) [] [] (Ds b _) ?_
 rintro _ m2 rfl
 refine ae 3 [] λ _=>RN.range (σ:=Nat) (τ:=Nat × Int) (encs:=λ (x_:Int)=>#[.int .u64 x_]) (xs:=(gD b)) (enters_of Tryz.func271 (by kernel_rfl) rfl) (λ m_=>([((n1+0),.lit [.int .u64 (jb b m_)] 77 (0,0))],[])) (λ i_ m_=>m_=i_) (λ c_ m_=>False) (λ ⟨m_,y_⟩=>⟨[(0,.string b),(1,vI n),(5,vP (n1+0) 0),(6,.int .u64 y_)],[((n1+0),.lit [.int .u64 (jb b m_)] 77 (0,0))],[],True,0⟩) (λ i_ x_ ⟨m_,y_⟩=>m_=i_ /\ y_=x_) 0 rfl [1] [] (Dq b (m2+0) _ hb (aB 0)) ?_ ?_ ?_ ?_
 ·rintro l_ i_ x_ m_ Y3 w4 hx5 rfl mt6
  refine ae 3 [] λ _=>?_
  refine mt6 (m_,x_) [0] [] ?_
  try dsimp only
  exact ⟨rfl,rfl⟩
 ·rintro l_ i_ x_ ⟨m_,y_⟩ Y7 w8 hx9 ⟨rfl,ey_⟩
  refine ae 4 [.own 0] λ _=>aj (lj (jb b m_) y_ _)<|ae 3 [.own 0] λ _=>?_
  have e_:jb b (m_+1)=uY (jb b m_) y_:=by rw [jb,ey_,Dp hx9]
  refine eI 0 (congrArg (λ v_=>(.lit [.int .u64 v_] 77 (0,0):Blk)) e_.symm)<|RN.rn (m_+1) [0] [] ?_
  try dsimp only
  first | done | rfl
 ·rintro d10 m_  rfl
  refine ae 8 [.own 1] λ _=>aj (lj (jb b (gD b).length) (IntKind.u64.wrap ((b).size:Int)) _)<|ae 2 [] λ _=>aj (lj (uY (jb b (gD b).length) (IntKind.u64.wrap ((b).size:Int))) (IntKind.u64.wrap n) _)<|ae 3 [] λ _=>?_
  exact RN.retM [d10] [0] [] [] [] ⟨rfl,rfl⟩
 ·exact λ _ _ _ h=>h.elim
theorem pU (b:ByteArray) (xs:List Int) (q c:Nat) (F:HL) (hb:b.size <= 1000000) (hl:xs.length <= c) (hl2:xs.length <= 1000000) (hq:(q,.rows 1 c (aL xs) 3 (0,0)) ∈ F):Sp Tryz.prog 114 #[.string b,vS q 0 xs.length c] [] F (λ u H'=>u=.int .u64 (tM b xs) /\ H'=[]):=by
 refine Sp.run Tryz.func114 rfl (mc hq mn) (A:=[]) (Ts:=[]) rfl λ w0=>?_
 refine ae 10 [] λ _=>aj (pT b (xs.length:Int) _ (by assumption))<|ae 12 [] λ _=>RN.loop (σ:=Nat) (λ k=>⟨[(5,.int .u64 (Dn (nE b xs.length) xs k)),(12,vS q 0 xs.length c),(13,vI (xs.length:Int)),(14,vI (k:Int))],[],[],k <= xs.length,xs.length - k⟩) 0 [] [] (Nat.zero_le _) ?_
 rintro k hI1 mt2
 refine ae 6 [] λ _=>RN.em ((k:Int) < (xs.length:Int)) 15 (λ h3=>?_) λ h3=>?_
 ·refine al 16 [.ix k,.rorow 0 k 0] [(0+k * 1)=k * 1+0 /\ k < c,(k:Int)=((k:Nat):Int) /\ k < xs.length] λ _=>aj (lj (Dn (nE b xs.length) xs k) (IntKind.u64.wrap (xs.getD k 0)) _)<|al 8 [.nw] [br ((k:Int)+1)] λ _=>?_
  refine mt2 (k+1) [] [] ?_
  try dsimp only
  exact ⟨by omega,by omega⟩
 ·obtain rfl:k=xs.length:=by omega
  refine ae 9 [] λ _=>aj (lj (Dn (nE b xs.length) xs xs.length) 0 _)<|ae 3 [] λ _=>?_
  exact RN.ret [] [] [] ⟨rfl,rfl⟩
structure VR where (M:MemS) (v:Int) (e:Eff) (em:Bool)
def mT:List (Int × Int × Int):=[(0,0,0),(0,1,0),(0,1,16),(1,0,16),(1,1,8),(2,0,8),(0,1,0),(0,1,0),(0,1,0),(2,1,0),(2,1,0),(2,1,0),(2,1,0),(1,1,0),(2,1,0),(2,1,0),(2,1,0),(1,1,0),(0,0,0),(1,0,0),(2,0,0),(0,0,0)]
abbrev eP (op:Int):Int:=(mT.getD op.toNat (0,0,0)).1
abbrev eQ (op:Int):Int:=(mT.getD op.toNat (0,0,0)).2.1
abbrev eN (op:Int):Int:=(mT.getD op.toNat (0,0,0)).2.2
def me:Nat -> Nat -> Value:=λ i k=>match k with | 0=>vI (mT.getD i (0,0,0)).1 | 1=>vI (mT.getD i (0,0,0)).2.1 | _=>vI (mT.getD i (0,0,0)).2.2
def kF (n:Int):Int:=aF n (-2147483647) 2147483647
def gq (b:Bool):Int:=if b=true then 1 else 0
def eK (op n sp:Int):Bool:=if op < 1 then false else if op > 21 then false else if sp > 16 then false else if sp < eP op then false else if aY (aY (sp - eP op)+eQ op) > 16 then false else if eN op=0 then true else if n >= 0 then decide (n < eN op) else false
def mU (f v:Int):Int:=if f=0 then aF v (-1048576) 1048576 else if f=1 then aF v (-1048576) 1048576 else if f=2 then aF v (-16384) 16384 else if f=3 then aF v (-16384) 16384 else v
abbrev NG:ByteArray:=⟨#[101,102,102,101,99,116]⟩
def cH (k v:Int) (M:MemS):VR:=if M.get 11 >= 40 then ⟨M,0,bk,false⟩ else ⟨(M.set 12 (aY ((tM NG [M.get 12,M.get 0,k,v]).fdiv 2))).set 11 (aY (M.get 11+1)),0,⟨M.get 0,M.get 11,k,v⟩,true⟩
def aD (S:Setup) (op n a b:Int) (M:MemS):VR :=
 if op=1 then ⟨M,n,bk,false⟩ else if op=2 then ⟨M,M.get (aY (32+n)),bk,false⟩ else if op=6 then ⟨M,M.get 9,bk,false⟩ else if op=7 then ⟨M,M.get 10,bk,false⟩ else if op=8 then ⟨M,M.get 0,bk,false⟩
 else if op=9 then ⟨M,kF (aY (a+b)),bk,false⟩ else if op=10 then ⟨M,kF (aY (a - b)),bk,false⟩ else if op=11 then ⟨M,kF (aY (a * b)),bk,false⟩ else if op=12 then ⟨M,if b=0 then 0 else kF (aY (a.tdiv b)),bk,false⟩
 else if op=14 then ⟨M,gq (decide (a < b)),bk,false⟩ else if op=15 then ⟨M,gq (decide (a <= b)),bk,false⟩ else if op=16 then ⟨M,gq (decide (a=b)),bk,false⟩
 else if op=13 then ⟨M,kF (aY (0 - a)),bk,false⟩ else if op=17 then ⟨M,gq (decide (a=0)),bk,false⟩
 else if op=3 then ⟨M.set (aY (32+n)) a,0,bk,false⟩ else if op=4 then ⟨M,if af S a >= 0 then M.get (aY (af S a+n)) else 0,bk,false⟩ else if op=5 then ⟨if af S a >= 0 then M.set (aY (af S a+n)) (mU n b) else M,0,bk,false⟩
 else if op=18 then ⟨M.set 6 n,0,bk,false⟩ else if op=19 then ⟨if a=0 then M.set 6 n else M,0,bk,false⟩ else if op=20 then ⟨(cH a b M).M,0,(cH a b M).e,(cH a b M).em⟩ else ⟨M,0,bk,false⟩
def dP (op sp:Int) (M:MemS):Int:=if eP op=2 then M.get (aY (aY (16+sp) - eP op)) else if eP op=1 then M.get (aY (aY (16+sp) - eP op)) else 0
def dQ (op sp:Int) (M:MemS):Int:=if eP op=2 then M.get (aY (aY (aY (16+sp) - eP op)+1)) else 0
def du (op sp pc fuel:Int) (M:MemS):MemS:=if eP op=eQ op then (M.set 8 (aY (fuel - 1))).set 6 (aY (pc+1)) else ((M.set 8 (aY (fuel - 1))).set 6 (aY (pc+1))).set 7 (aY (aY (sp - eP op)+eQ op))
def bQ (S:Setup) (op n sp pc fuel:Int) (M:MemS):VR:=aD S op n (dP op sp M) (dQ op sp M) (du op sp pc fuel M)
def cg (op sp:Int) (r:VR):VR:=if eQ op > 0 then ⟨r.M.set (aY (aY (16+sp) - eP op)) r.v,r.v,r.e,r.em⟩ else r
abbrev aZ (code:List Ins) (M:MemS):Ins:=code.getD (M.get 6).toNat dIns
def dK (code:List Ins) (n:Nat) (M:MemS):Prop:=¬ M.get 8 < 1 /\ ¬ M.get 6 < 0 /\ ¬ M.get 6 >= (n:Int) /\ eK (aZ code M).op (aZ code M).n (M.get 7)=true
instance (code:List Ins) (n:Nat) (M:MemS):Decidable (dK code n M):=inferInstanceAs (Decidable (_ /\ _))
def ak (S:Setup) (code:List Ins) (n:Nat) (M:MemS):VR:=if dK code n M then cg (aZ code M).op (M.get 7) (bQ S (aZ code M).op (aZ code M).n (M.get 7) (M.get 6) (M.get 8) M) else ⟨M,0,bk,false⟩
def bg (code:List Ins) (n:Nat) (M:MemS):Bool:=if dK code n M then decide ((aZ code M).op=21) else true
def aN (e fuel self other:Int) (M:MemS):MemS:=if e < 0 then M else ((((M.set 6 e).set 7 0).set 8 fuel).set 9 self).set 10 other
def kG:Enc Ins:=⟨2,λ p k=>match k with | 0=>vI p.op | 1=>vI p.n | _=>default,dIns⟩
noncomputable def Jt:TypeInfo:=match Tryz.prog.info? 129 with | some i=>i | none=>⟨.bool,"",0,0,false,0,0,none,false,#[]⟩
noncomputable def Ju:Value:=match Jt.zero with | some z=>z | none=>.bool false
theorem Dt:EncOk kG Tryz.prog 129 Jt Ju where
 info:=by kernel_rfl
 zero:=by kernel_rfl
 size:=by kernel_rfl
 zsize:=by kernel_rfl
 zcell:=λ k hk=>by
  have h:∀ k < 2,Ju.cells[k]?=some (kG.cell kG.dflt k):=by intro k hk;(iterate 2 (rcases k with _ | k;· kernel_rfl));omega
  exact h k hk
 one:=λ x k=>by unfold kG;dsimp only;split <;> rfl
 bytes:=Nat.le_of_ble_eq_true (by kernel_rfl)
abbrev L9 (l:List Ins):Nat -> Nat -> Value:=cu kG l
inductive CodeIn (F:HL) (code:List Ins):Option Addr -> Nat -> Prop
 | nil (A:Option Addr):CodeIn F code A 0
 | mk (b R n:Nat) (h:(b,.rows 2 R (L9 code) 129 (0,0)) ∈ F) (hn:n <= R) (hn2:n <= 1000000):CodeIn F code (some ⟨b,0,none⟩) n
theorem CodeIn.up {F X:HL} {code:List Ins} {A:Option Addr} {n:Nat} (h:CodeIn F code A n):CodeIn (X++F) code A n:=by
 cases h with
 | nil=>exact .nil _
 | mk b R n h h1 h2=>exact .mk b R n (List.mem_append_right _ h) h1 h2
abbrev ck (F:HL):Prop:=(1,.rows 3 22 me 323 (0,0)) ∈ F
theorem mV (n:Int)  (F:HL):Sp Tryz.prog 284 #[vI n] [] F (λ u H'=>u=vI (kF n) /\ H'=[]):=by
 refine Sp.run Tryz.func284 rfl mn (A:=[]) (Ts:=[]) rfl λ w0=>?_
 refine ae 8 [] λ _=>aj (cz n (-2147483647) 2147483647  _)<|ae 3 [] λ _=>?_
 exact RN.ret [] [] [] ⟨rfl,rfl⟩
theorem ll (b:Bool) (F:HL):Sp Tryz.prog 289 #[.bool b] [] F (λ u H'=>u=vI (gq b) /\ H'=[]):=by
 refine Sp.run Tryz.func289 rfl mn (A:=[]) (Ts:=[]) rfl λ w0=>?_
 refine ae 11 [] λ _=>fT (b) 3 (λ h1=>?_) λ h1=>?_
 ·refine ae 6 [] λ _=>RN.ret [] [] [] (v:=vI 1) (H':=[]) ?_
  refine ⟨?_,rfl⟩
  first | (simp only [gq,if_pos h1];done) | (simp only [gq,if_pos h1];rfl) | rfl
 ·refine ae 8 [] λ _=>RN.ret [] [] [] (v:=vI 0) (H':=[]) ?_
  refine ⟨?_,rfl⟩
  first | (simp only [gq,if_neg h1];done) | (simp only [gq,if_neg h1];rfl) | rfl
theorem Bn (f:Int) (v:Int)  (F:HL):Sp Tryz.prog 297 #[vI f,vI v] [] F (λ u H'=>u=vI (mU f v) /\ H'=[]):=by
 refine Sp.run Tryz.func297 rfl mn (A:=[]) (Ts:=[]) rfl λ w0=>?_
 refine ae 19 [] λ _=>RN.em (f=0) 6 (λ h1=>?_) λ h1=>?_
 ·refine ae 7 [] λ _=>aj (cz v (-1048576) 1048576  _)<|ae 3 [] λ _=>RN.ret [] [] [] (v:=vI (aF v (-1048576) 1048576)) (H':=[]) ?_
  refine ⟨?_,rfl⟩
  first | (simp only [mU,if_pos h1];done) | (simp only [mU,if_pos h1];rfl) | rfl
 ·refine ae 6 [] λ _=>RN.em (f=1) 6 (λ h2=>?_) λ h2=>?_
  ·refine ae 4 [] λ _=>aj (cz v (-1048576) 1048576  _)<|ae 3 [] λ _=>RN.ret [] [] [] (v:=vI (aF v (-1048576) 1048576)) (H':=[]) ?_
   refine ⟨?_,rfl⟩
   first | (simp only [mU,if_neg h1,if_pos h2];done) | (simp only [mU,if_neg h1,if_pos h2];rfl) | rfl
  ·refine ae 8 [] λ _=>RN.em (f=2) 11 (λ h3=>?_) λ h3=>?_
   ·refine ae 7 [] λ _=>aj (cz v (-16384) 16384  _)<|ae 3 [] λ _=>RN.ret [] [] [] (v:=vI (aF v (-16384) 16384)) (H':=[]) ?_
    refine ⟨?_,rfl⟩
    first | (simp only [mU,if_neg h1,if_neg h2,if_pos h3];done) | (simp only [mU,if_neg h1,if_neg h2,if_pos h3];rfl) | rfl
   ·refine ae 6 [] λ _=>RN.em (f=3) 11 (λ h4=>?_) λ h4=>?_
    ·refine ae 4 [] λ _=>aj (cz v (-16384) 16384  _)<|ae 3 [] λ _=>RN.ret [] [] [] (v:=vI (aF v (-16384) 16384)) (H':=[]) ?_
     refine ⟨?_,rfl⟩
     first | (simp only [mU,if_neg h1,if_neg h2,if_neg h3,if_pos h4];done) | (simp only [mU,if_neg h1,if_neg h2,if_neg h3,if_pos h4];rfl) | rfl
    ·refine ae 10 [] λ _=>RN.ret [] [] [] (v:=vI v) (H':=[]) ?_
     refine ⟨?_,rfl⟩
     first | (simp only [mU,if_neg h1,if_neg h2,if_neg h3,if_neg h4];done) | (simp only [mU,if_neg h1,if_neg h2,if_neg h3,if_neg h4];rfl) | rfl
theorem Ht (op n sp:Int) (F:HL) (hE:ck F):Sp Tryz.prog 200 #[.agg #[vI op,vI n],vI sp] [] F (λ u H'=>u=.bool (eK op n sp) /\ H'=[]):=by
 refine Sp.run Tryz.func200 rfl (mc hE mn) (A:=[]) (Ts:=[]) rfl λ w0=>?_
 refine ae 13 [.own 0] λ n1=>RN.em (op < 1) 9 (λ h2=>?_) λ h2=>?_
 ·refine ae 16 [] λ _=>RN.ret [] [] [] (v:=.bool false) (H':=[]) ?_
  refine ⟨?_,rfl⟩
  first | (simp only [eK,if_pos h2];done) | (simp only [eK,if_pos h2];rfl) | rfl
 ·refine ae 5 [.own 0] λ _=>RN.em (op > 21) 14 (λ h3=>?_) λ h3=>?_
  ·refine ae 11 [] λ _=>RN.ret [] [] [] (v:=.bool false) (H':=[]) ?_
   refine ⟨?_,rfl⟩
   first | (simp only [eK,if_neg h2,if_pos h3];done) | (simp only [eK,if_neg h2,if_pos h3];rfl) | rfl
  ·refine ae 5 [] λ _=>RN.em (sp > 16) 17 (λ h4=>?_) λ h4=>?_
   ·refine ae 6 [] λ _=>RN.ret [] [] [] (v:=.bool false) (H':=[]) ?_
    refine ⟨?_,rfl⟩
    first | (simp only [eK,if_neg h2,if_neg h3,if_pos h4];done) | (simp only [eK,if_neg h2,if_neg h3,if_pos h4];rfl) | rfl
   ·refine al 21 [.own 0,.ix ((op).toNat),.rorow 0 ((op).toNat) 0,.rorow 0 ((op).toNat) 1,.rorow 0 ((op).toNat) 2,.own 0,.own 0,.own 0,.own 0] [((0+((op).toNat) * 3)+2)=((op).toNat) * 3+2 /\ ((op).toNat) < 22,((0+((op).toNat) * 3)+1)=((op).toNat) * 3+1 /\ ((op).toNat) < 22,(0+((op).toNat) * 3)=((op).toNat) * 3+0 /\ ((op).toNat) < 22,op=(((op).toNat:Nat):Int) /\ (op).toNat < 22] λ n5=>RN.em (sp < eP op) 26 (λ h6=>?_) λ h6=>?_
    ·refine ae 17 [] λ _=>RN.ret [] [] [] (v:=.bool false) (H':=[]) ?_
     refine ⟨?_,rfl⟩
     first | (simp only [eK,if_neg h2,if_neg h3,if_neg h4,if_pos h6];done) | (simp only [eK,if_neg h2,if_neg h3,if_neg h4,if_pos h6];rfl) | rfl
    ·refine ae 11 [.own 0,.own 0] λ _=>RN.em (IntKind.i64.wrap ((IntKind.i64.wrap (sp - (eP op)))+(eQ op)) > 16) 35 (λ h7=>?_) λ h7=>?_
     ·refine ae 6 [] λ _=>RN.ret [] [] [] (v:=.bool false) (H':=[]) ?_
      refine ⟨?_,rfl⟩
      first | (simp only [eK,if_neg h2,if_neg h3,if_neg h4,if_neg h6,if_pos h7];done) | (simp only [eK,if_neg h2,if_neg h3,if_neg h4,if_neg h6,if_pos h7];rfl) | rfl
     ·refine ae 9 [.own 0] λ _=>RN.em (eN op=0) 39 (λ h8=>?_) λ h8=>?_
      ·refine ae 14 [] λ _=>RN.ret [] [] [] (v:=.bool true) (H':=[]) ?_
       refine ⟨?_,rfl⟩
       first | (simp only [eK,if_neg h2,if_neg h3,if_neg h4,if_neg h6,if_neg h7,if_pos h8];done) | (simp only [eK,if_neg h2,if_neg h3,if_neg h4,if_neg h6,if_neg h7,if_pos h8];rfl) | rfl
      ·refine ae 4 [.own 1] λ _=>RN.em (n >= 0) 43 (λ h9=>?_) λ h9=>?_
       ·refine ae 10 [.own 1,.own 0] λ _=>RN.ret [] [] [] (v:=.bool (decide (n < eN op))) (H':=[]) ?_
        refine ⟨?_,rfl⟩
        first | (simp only [eK,if_neg h2,if_neg h3,if_neg h4,if_neg h6,if_neg h7,if_neg h8,if_pos h9];done) | (simp only [eK,if_neg h2,if_neg h3,if_neg h4,if_neg h6,if_neg h7,if_neg h8,if_pos h9];rfl) | rfl
       ·refine ae 10 [] λ _=>RN.ret [] [] [] (v:=.bool false) (H':=[]) ?_
        refine ⟨?_,rfl⟩
        first | (simp only [eK,if_neg h2,if_neg h3,if_neg h4,if_neg h6,if_neg h7,if_neg h8,if_neg h9];done) | (simp only [eK,if_neg h2,if_neg h3,if_neg h4,if_neg h6,if_neg h7,if_neg h8,if_neg h9];rfl) | rfl
theorem ld1 (mb:Nat) (M:MemS) (k:Nat) (T:HL) (n:Int) (F:HL) (hM:MemH mb M k T) (hs:∀ x ∈ T,x ∈ F):Sp Tryz.prog 278 #[.iface 40 (vP mb 0),vI n] [] F (λ u H'=>u=vI (n) /\ H'=[]):=by
 refine Sp.run Tryz.func278 rfl mn (A:=[]) (Ts:=[]) rfl λ w0=>?_
 refine ae 11 [] λ _=>?_
 exact RN.ret [] [] [] ⟨rfl,rfl⟩
theorem ld2 (mb:Nat) (M:MemS) (k:Nat) (T:HL) (n:Int) (F:HL) (hM:MemH mb M k T) (hs:∀ x ∈ T,x ∈ F):Sp Tryz.prog 279 #[.iface 40 (vP mb 0),vI n] [] F (λ u H'=>u=vI (M.get (aY (32+n))) /\ H'=[]):=by
 refine Sp.run Tryz.func279 rfl mn (A:=[]) (Ts:=[]) rfl λ w0=>?_
 refine ae 10 [] λ _=>aj (aw (IntKind.i64.wrap (32+n)) hM λ x hx=>au (hs x hx))<|ae 3 [] λ _=>?_
 exact RN.ret [] [] [] ⟨rfl,rfl⟩
theorem ld3 (mb:Nat) (M:MemS) (k:Nat) (T:HL) (n:Int) (F:HL) (hM:MemH mb M k T) (hs:∀ x ∈ T,x ∈ F):Sp Tryz.prog 280 #[.iface 40 (vP mb 0),vI n] [] F (λ u H'=>u=vI (M.get 9) /\ H'=[]):=by
 refine Sp.run Tryz.func280 rfl mn (A:=[]) (Ts:=[]) rfl λ w0=>?_
 refine ae 8 [] λ _=>aj (aw 9 hM λ x hx=>au (hs x hx))<|ae 3 [] λ _=>?_
 exact RN.ret [] [] [] ⟨rfl,rfl⟩
theorem ld4 (mb:Nat) (M:MemS) (k:Nat) (T:HL) (n:Int) (F:HL) (hM:MemH mb M k T) (hs:∀ x ∈ T,x ∈ F):Sp Tryz.prog 281 #[.iface 40 (vP mb 0),vI n] [] F (λ u H'=>u=vI (M.get 10) /\ H'=[]):=by
 refine Sp.run Tryz.func281 rfl mn (A:=[]) (Ts:=[]) rfl λ w0=>?_
 refine ae 8 [] λ _=>aj (aw 10 hM λ x hx=>au (hs x hx))<|ae 3 [] λ _=>?_
 exact RN.ret [] [] [] ⟨rfl,rfl⟩
theorem ld5 (mb:Nat) (M:MemS) (k:Nat) (T:HL) (n:Int) (F:HL) (hM:MemH mb M k T) (hs:∀ x ∈ T,x ∈ F):Sp Tryz.prog 282 #[.iface 40 (vP mb 0),vI n] [] F (λ u H'=>u=vI (M.get 0) /\ H'=[]):=by
 refine Sp.run Tryz.func282 rfl mn (A:=[]) (Ts:=[]) rfl λ w0=>?_
 refine ae 8 [] λ _=>aj (aw 0 hM λ x hx=>au (hs x hx))<|ae 3 [] λ _=>?_
 exact RN.ret [] [] [] ⟨rfl,rfl⟩
theorem NH (a b:Int) (F:HL):Sp Tryz.prog 283 #[vI a,vI b] [] F (λ u H'=>u=vI (kF (aY (a+b))) /\ H'=[]):=by
 refine Sp.run Tryz.func283 rfl mn (A:=[]) (Ts:=[]) rfl λ w0=>?_
 refine ae 10 [] λ _=>aj (mV (IntKind.i64.wrap (a+b))  _)<|ae 3 [] λ _=>?_
 exact RN.ret [] [] [] ⟨rfl,rfl⟩
theorem NI (a b:Int) (F:HL):Sp Tryz.prog 285 #[vI a,vI b] [] F (λ u H'=>u=vI (kF (aY (a - b))) /\ H'=[]):=by
 refine Sp.run Tryz.func285 rfl mn (A:=[]) (Ts:=[]) rfl λ w0=>?_
 refine ae 10 [] λ _=>aj (mV (IntKind.i64.wrap (a - b))  _)<|ae 3 [] λ _=>?_
 exact RN.ret [] [] [] ⟨rfl,rfl⟩
theorem NJ (a b:Int) (F:HL):Sp Tryz.prog 286 #[vI a,vI b] [] F (λ u H'=>u=vI (kF (aY (a * b))) /\ H'=[]):=by
 refine Sp.run Tryz.func286 rfl mn (A:=[]) (Ts:=[]) rfl λ w0=>?_
 refine ae 10 [] λ _=>aj (mV (IntKind.i64.wrap (a * b))  _)<|ae 3 [] λ _=>?_
 exact RN.ret [] [] [] ⟨rfl,rfl⟩
theorem NK (a b:Int) (F:HL):Sp Tryz.prog 287 #[vI a,vI b] [] F (λ u H'=>u=vI (if b=0 then 0 else kF (aY (a.tdiv b))) /\ H'=[]):=by
 refine Sp.run Tryz.func287 rfl mn (A:=[]) (Ts:=[]) rfl λ w0=>?_
 refine ae 12 [] λ _=>RN.em (b=0) 6 (λ h1=>?_) λ h1=>?_
 ·refine ae 6 [] λ _=>RN.ret [] [] [] (v:=vI 0) (H':=[]) ?_
  exact ⟨by simp [*],rfl⟩
 ·refine al 8 [.dv] [b ≠ 0] λ _=>aj (mV (IntKind.i64.wrap (a.tdiv b))  _)<|ae 3 [] λ _=>RN.ret [] [] [] (v:=vI (kF (IntKind.i64.wrap (a.tdiv b)))) (H':=[]) ?_
  exact ⟨by simp [*],rfl⟩
theorem NL (a b:Int) (F:HL):Sp Tryz.prog 288 #[vI a,vI b] [] F (λ u H'=>u=vI (gq (decide (a < b))) /\ H'=[]):=by
 refine Sp.run Tryz.func288 rfl mn (A:=[]) (Ts:=[]) rfl λ w0=>?_
 refine ae 10 [] λ _=>aj (ll (decide (a < b)) _)<|ae 3 [] λ _=>?_
 exact RN.ret [] [] [] ⟨rfl,rfl⟩
theorem NM (a b:Int) (F:HL):Sp Tryz.prog 290 #[vI a,vI b] [] F (λ u H'=>u=vI (gq (decide (a <= b))) /\ H'=[]):=by
 refine Sp.run Tryz.func290 rfl mn (A:=[]) (Ts:=[]) rfl λ w0=>?_
 refine ae 10 [] λ _=>aj (ll (decide (a <= b)) _)<|ae 3 [] λ _=>?_
 exact RN.ret [] [] [] ⟨rfl,rfl⟩
theorem NN (a b:Int) (F:HL):Sp Tryz.prog 291 #[vI a,vI b] [] F (λ u H'=>u=vI (gq (decide (a=b))) /\ H'=[]):=by
 refine Sp.run Tryz.func291 rfl mn (A:=[]) (Ts:=[]) rfl λ w0=>?_
 refine ae 10 [] λ _=>aj (ll (decide (a=b)) _)<|ae 3 [] λ _=>?_
 exact RN.ret [] [] [] ⟨rfl,rfl⟩
theorem un1 (a:Int) (F:HL):Sp Tryz.prog 292 #[vI a] [] F (λ u H'=>u=vI (kF (aY (0 - a))) /\ H'=[]):=by
 refine Sp.run Tryz.func292 rfl mn (A:=[]) (Ts:=[]) rfl λ w0=>?_
 refine ae 9 [] λ _=>aj (mV (IntKind.i64.wrap (0 - a))  _)<|ae 3 [] λ _=>?_
 exact RN.ret [] [] [] ⟨rfl,rfl⟩
theorem un2 (a:Int) (F:HL):Sp Tryz.prog 293 #[vI a] [] F (λ u H'=>u=vI (gq (decide (a=0))) /\ H'=[]):=by
 refine Sp.run Tryz.func293 rfl mn (A:=[]) (Ts:=[]) rfl λ w0=>?_
 refine ae 9 [] λ _=>aj (ll (decide (a=0)) _)<|ae 3 [] λ _=>?_
 exact RN.ret [] [] [] ⟨rfl,rfl⟩
theorem Ma (F:HL):Sp Tryz.prog 249 #[vI 1] [] F (λ u H'=>u=.func (.func 278) #[] #[] /\ H'=[]):=by
 refine Sp.run Tryz.func249 rfl mn (A:=[]) (Ts:=[]) rfl λ w0=>?_
 refine ae 19 (ow 0 11) λ n1=>?_
 exact RN.ret [] [] [] ⟨rfl,rfl⟩
theorem Mb (F:HL):Sp Tryz.prog 249 #[vI 2] [] F (λ u H'=>u=.func (.func 279) #[] #[] /\ H'=[]):=by
 refine Sp.run Tryz.func249 rfl mn (A:=[]) (Ts:=[]) rfl λ w0=>?_
 refine ae 19 (ow 0 11) λ n1=>?_
 exact RN.ret [] [] [] ⟨rfl,rfl⟩
theorem Mc (F:HL):Sp Tryz.prog 249 #[vI 6] [] F (λ u H'=>u=.func (.func 280) #[] #[] /\ H'=[]):=by
 refine Sp.run Tryz.func249 rfl mn (A:=[]) (Ts:=[]) rfl λ w0=>?_
 refine ae 19 (ow 0 11) λ n1=>?_
 exact RN.ret [] [] [] ⟨rfl,rfl⟩
theorem Md (F:HL):Sp Tryz.prog 249 #[vI 7] [] F (λ u H'=>u=.func (.func 281) #[] #[] /\ H'=[]):=by
 refine Sp.run Tryz.func249 rfl mn (A:=[]) (Ts:=[]) rfl λ w0=>?_
 refine ae 19 (ow 0 11) λ n1=>?_
 exact RN.ret [] [] [] ⟨rfl,rfl⟩
theorem Me (F:HL):Sp Tryz.prog 249 #[vI 8] [] F (λ u H'=>u=.func (.func 282) #[] #[] /\ H'=[]):=by
 refine Sp.run Tryz.func249 rfl mn (A:=[]) (Ts:=[]) rfl λ w0=>?_
 refine ae 19 (ow 0 11) λ n1=>?_
 exact RN.ret [] [] [] ⟨rfl,rfl⟩
theorem Mf (F:HL):Sp Tryz.prog 250 #[vI 9] [] F (λ u H'=>u=.func (.func 283) #[] #[] /\ H'=[]):=by
 refine Sp.run Tryz.func250 rfl mn (A:=[]) (Ts:=[]) rfl λ w0=>?_
 refine ae 21 (ow 0 15) λ n1=>?_
 exact RN.ret [] [] [] ⟨rfl,rfl⟩
theorem J8 (F:HL):Sp Tryz.prog 250 #[vI 10] [] F (λ u H'=>u=.func (.func 285) #[] #[] /\ H'=[]):=by
 refine Sp.run Tryz.func250 rfl mn (A:=[]) (Ts:=[]) rfl λ w0=>?_
 refine ae 21 (ow 0 15) λ n1=>?_
 exact RN.ret [] [] [] ⟨rfl,rfl⟩
theorem J9 (F:HL):Sp Tryz.prog 250 #[vI 11] [] F (λ u H'=>u=.func (.func 286) #[] #[] /\ H'=[]):=by
 refine Sp.run Tryz.func250 rfl mn (A:=[]) (Ts:=[]) rfl λ w0=>?_
 refine ae 21 (ow 0 15) λ n1=>?_
 exact RN.ret [] [] [] ⟨rfl,rfl⟩
theorem Ka (F:HL):Sp Tryz.prog 250 #[vI 12] [] F (λ u H'=>u=.func (.func 287) #[] #[] /\ H'=[]):=by
 refine Sp.run Tryz.func250 rfl mn (A:=[]) (Ts:=[]) rfl λ w0=>?_
 refine ae 21 (ow 0 15) λ n1=>?_
 exact RN.ret [] [] [] ⟨rfl,rfl⟩
theorem Kb (F:HL):Sp Tryz.prog 250 #[vI 14] [] F (λ u H'=>u=.func (.func 288) #[] #[] /\ H'=[]):=by
 refine Sp.run Tryz.func250 rfl mn (A:=[]) (Ts:=[]) rfl λ w0=>?_
 refine ae 21 (ow 0 15) λ n1=>?_
 exact RN.ret [] [] [] ⟨rfl,rfl⟩
theorem Kd (F:HL):Sp Tryz.prog 250 #[vI 15] [] F (λ u H'=>u=.func (.func 290) #[] #[] /\ H'=[]):=by
 refine Sp.run Tryz.func250 rfl mn (A:=[]) (Ts:=[]) rfl λ w0=>?_
 refine ae 21 (ow 0 15) λ n1=>?_
 exact RN.ret [] [] [] ⟨rfl,rfl⟩
theorem Ke (F:HL):Sp Tryz.prog 250 #[vI 16] [] F (λ u H'=>u=.func (.func 291) #[] #[] /\ H'=[]):=by
 refine Sp.run Tryz.func250 rfl mn (A:=[]) (Ts:=[]) rfl λ w0=>?_
 refine ae 21 (ow 0 15) λ n1=>?_
 exact RN.ret [] [] [] ⟨rfl,rfl⟩
theorem Kf (F:HL):Sp Tryz.prog 251 #[vI 13] [] F (λ u H'=>u=.func (.func 292) #[] #[] /\ H'=[]):=by
 refine Sp.run Tryz.func251 rfl mn (A:=[]) (Ts:=[]) rfl λ w0=>?_
 refine ae 16 (ow 0 5) λ n1=>?_
 exact RN.ret [] [] [] ⟨rfl,rfl⟩
theorem Kg (F:HL):Sp Tryz.prog 251 #[vI 17] [] F (λ u H'=>u=.func (.func 293) #[] #[] /\ H'=[]):=by
 refine Sp.run Tryz.func251 rfl mn (A:=[]) (Ts:=[]) rfl λ w0=>?_
 refine ae 16 (ow 0 5) λ n1=>?_
 exact RN.ret [] [] [] ⟨rfl,rfl⟩
theorem Mg (F:HL):Sp Tryz.prog 252 #[vI 3] [] F (λ u H'=>u=.func (.func 294) #[] #[] /\ H'=[]):=by
 refine Sp.run Tryz.func252 rfl mn (A:=[]) (Ts:=[]) rfl λ w0=>?_
 refine ae 21 (ow 0 15) λ n1=>?_
 exact RN.ret [] [] [] ⟨rfl,rfl⟩
theorem Mh (F:HL):Sp Tryz.prog 252 #[vI 4] [] F (λ u H'=>u=.func (.func 295) #[] #[] /\ H'=[]):=by
 refine Sp.run Tryz.func252 rfl mn (A:=[]) (Ts:=[]) rfl λ w0=>?_
 refine ae 21 (ow 0 15) λ n1=>?_
 exact RN.ret [] [] [] ⟨rfl,rfl⟩
theorem Mi (F:HL):Sp Tryz.prog 252 #[vI 5] [] F (λ u H'=>u=.func (.func 296) #[] #[] /\ H'=[]):=by
 refine Sp.run Tryz.func252 rfl mn (A:=[]) (Ts:=[]) rfl λ w0=>?_
 refine ae 21 (ow 0 15) λ n1=>?_
 exact RN.ret [] [] [] ⟨rfl,rfl⟩
theorem Kh (F:HL):Sp Tryz.prog 252 #[vI 18] [] F (λ u H'=>u=.func (.func 298) #[] #[] /\ H'=[]):=by
 refine Sp.run Tryz.func252 rfl mn (A:=[]) (Ts:=[]) rfl λ w0=>?_
 refine ae 21 (ow 0 15) λ n1=>?_
 exact RN.ret [] [] [] ⟨rfl,rfl⟩
theorem Ki (F:HL):Sp Tryz.prog 252 #[vI 19] [] F (λ u H'=>u=.func (.func 299) #[] #[] /\ H'=[]):=by
 refine Sp.run Tryz.func252 rfl mn (A:=[]) (Ts:=[]) rfl λ w0=>?_
 refine ae 21 (ow 0 15) λ n1=>?_
 exact RN.ret [] [] [] ⟨rfl,rfl⟩
theorem Kj (F:HL):Sp Tryz.prog 252 #[vI 20] [] F (λ u H'=>u=.func (.func 300) #[] #[] /\ H'=[]):=by
 refine Sp.run Tryz.func252 rfl mn (A:=[]) (Ts:=[]) rfl λ w0=>?_
 refine ae 21 (ow 0 15) λ n1=>?_
 exact RN.ret [] [] [] ⟨rfl,rfl⟩
theorem Kk (F:HL):Sp Tryz.prog 252 #[vI 21] [] F (λ u H'=>u=.func (.func 302) #[] #[] /\ H'=[]):=by
 refine Sp.run Tryz.func252 rfl mn (A:=[]) (Ts:=[]) rfl λ w0=>?_
 refine ae 21 (ow 0 15) λ n1=>?_
 exact RN.ret [] [] [] ⟨rfl,rfl⟩
end Go.Proofs.YtghjbimijeinfaaGreatDoor
