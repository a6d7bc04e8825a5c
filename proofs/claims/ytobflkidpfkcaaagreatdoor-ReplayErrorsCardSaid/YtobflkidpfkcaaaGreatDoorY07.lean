import Derived.Test.YtobflkidpfkcaaaGreatDoorY06
set_option maxHeartbeats 4000000
set_option maxRecDepth 100000
set_option linter.unusedSimpArgs false
set_option linter.unusedVariables false
namespace Go.Proofs.YtobflkidpfkcaaaGreatDoor
open Go.RowKit
def Ks (a b:Int):Int:=IntKind.u64.wrap ((BitVec.ofInt 64 a ^^^ BitVec.ofInt 64 b).toNat:Int)
def orU (a b:Int):Int:=IntKind.u64.wrap ((BitVec.ofInt 64 a ||| BitVec.ofInt 64 b).toNat:Int)
def jB (a b:Int):Int:=Ks (IntKind.u64.wrap (Ks a b * 11400714819323198485)) ((IntKind.u64.wrap (Ks a b * 11400714819323198485)).fdiv 4294967296)
def sk (b:ByteArray) (i:Nat):Nat -> Int
 | 0=>0
 | k+1=>orU (sk b i k) (IntKind.u64.wrap (IntKind.u64.wrap (Dy b (8 * i+k)) * 2 ^ min (8 * (k:Int)).toNat 64))
def wk (b:ByteArray) (i:Nat):Nat:=min 8 (b.size - 8 * i)
def wn (b:ByteArray):Nat:=(b.size+7) / 8
def gD (b:ByteArray):List Int:=(List.range (wn b)).map λ i=>sk b i (wk b i)
theorem xW (b:ByteArray):(gD b).length=wn b:=by simp [gD]
theorem p8 {b:ByteArray} {i:Nat} (h:8 * i < b.size):(gD b)[i]?=some (sk b i (wk b i)):=by
 have:i < wn b:=by unfold wn;omega
 simp [gD,this]
def ji (b:ByteArray):Nat -> Int
 | 0=>0
 | m+1=>jB (ji b m) ((gD b).getD m 0)
def cJ (b:ByteArray) (n:Int):Int:=jB (jB (ji b (gD b).length) (IntKind.u64.wrap (b.size:Int))) (IntKind.u64.wrap n)
def tR (s:Int) (xs:List Int):Nat -> Int
 | 0=>s
 | k+1=>jB (tR s xs k) (IntKind.u64.wrap (xs.getD k 0))
def kK (b:ByteArray) (xs:List Int):Int:=jB (tR (cJ b xs.length) xs xs.length) 0
abbrev HZ (x:Int):Array Value:=#[.int .u64 x]
theorem p9 {xs:List Int} {i:Nat} {x:Int} (h:xs[i]?=some x):xs.getD i 0=x:=by rw [List.getD_eq_getElem?_getD,h];rfl
theorem eE (a b:Int) (F:HL):Sp Tryz.prog 54 #[.int .u64 a,.int .u64 b] [] F (λ u H'=>u=.int .u64 (jB a b) /\ H'=[]):=by
 refine Sp.run Tryz.func54 rfl mn (A:=[]) (Ts:=[]) rfl λ w0=>?_
 refine ae 23 [] λ _=>?_
 exact RN.ret [] [] [] ⟨rfl,rfl⟩
theorem BN (b:ByteArray) (q lp:Nat) (X F:HL) (J:Nat -> HL -> Prop) (Jx:HL -> Prop) (T0:HL) (hb:b.size <= 1000000) (hq:(q,.lit [.string b] 9 (0,0)) ∈ F) (hY:∀ i x H Y,(gD b)[i]?=some x -> J i H -> YL Tryz.prog lp (HZ x) H (Y++(X++F)) (λ b H'=>(b=true /\ J (i+1) H') \/ (b=false /\ Jx H'))) (hJ0:J 0 T0):Sp Tryz.prog 113 #[.func (.yield lp) #[] #[],vP q 0] (ap [] [T0]) (X++F) (λ _ H'=>J (gD b).length H' \/ Jx H'):=by
 refine Sp.run Tryz.func113 rfl (mc (List.mem_append_right _ hq) mn) (A:=[]) (Ts:=[T0]) rfl λ w0=>?_
 refine ae 6 [] λ _=>RN.loop (σ:=Nat × HL) (λ ⟨i,T_⟩=>⟨[(0,.func (.yield lp) #[] #[]),(1,vP q 0),(3,vI (8 * (i:Int)))],[],[T_],i <= wn b /\ J i T_,wn b - i⟩) (0,T0) [] [0] (⟨Nat.zero_le _,hJ0⟩) ?_
 rintro ⟨i,T_⟩ ⟨hi_,hJ_⟩ mt2
 refine ae 9 [.ro 0] λ _=>RN.em (8 * (i:Int) < ((b).size:Int)) 9 (λ h3=>?_) λ h3=>?_
 ·refine ae 17 [] λ _=>RN.loop (σ:=Nat) (λ k=>⟨[(0,.func (.yield lp) #[] #[]),(1,vP q 0),(3,vI (8 * (i:Int))),(4,.int .u64 (sk b i k)),(5,vI (k:Int))],[],[T_],k <= 8 /\ 8 * i+k <= b.size,8 - k⟩) 0 [] [0] (⟨by omega,by omega⟩) ?_
  rintro k ⟨hk_,hk2_⟩ mt5
  refine ae 6 [] λ _=>RN.em ((k:Int) < 8) 14 (λ h6=>?_) λ h6=>?_
  ·refine ai 9 [.nw,.ro 0] [bg ((8 * (i:Int))+(k:Int))] λ _=>RN.em ((8 * (i:Int))+(k:Int) < ((b).size:Int)) 21 (λ h7=>?_) λ h7=>?_
   ·refine ai 26 [.ro 0,.nw,.ix (8 * i+k),.nw,.dv,.gen,.nw] [bg ((k:Int)+1),0 <= 8 * (k:Int),bg (8 * (k:Int)),(8 * (i:Int))+(k:Int)=(((8 * i+k):Nat):Int) /\ (8 * i+k) < (b).size,bg ((8 * (i:Int))+(k:Int))] λ _=>?_
    refine mt5 (k+1) [] [0] ?_
    try dsimp only
    exact ⟨⟨by omega,by omega⟩,by omega⟩
   ·obtain rfl:k=wk b i:=by unfold wk;omega
    refine ae 10 [] λ _=>RN.yield 0 (hY i (sk b i (wk b i)) _ _ (p8 (by omega)) hJ_) ?_
    rintro b_ T8 (⟨rfl,hJ9⟩ | ⟨rfl,hJ9⟩)
    ·refine ai 12 [.gen,.nw] [bg ((8 * (i:Int))+8)] λ _=>aK 3 (congrArg (λ v_=>(vI v_:Value)) (show (8 * (i:Int)+8)=8 * ((i+1:Nat):Int) by omega)) ?_
     refine mt2 (i+1,T8) [] [0] ?_
     try dsimp only
     exact ⟨⟨by unfold wn at *;omega,hJ9⟩,by unfold wn at *;omega⟩
    ·refine ae 4 [] λ _=>RN.ret [] [] [0] (v:=.tuple #[]) (H':=(ap [] [T8])) ?_
     rw [bj]
     exact .inr hJ9
  ·obtain rfl:k=wk b i:=by unfold wk;omega
   refine ae 19 [] λ _=>RN.yield 0 (hY i (sk b i (wk b i)) _ _ (p8 (by omega)) hJ_) ?_
   rintro b_ T10 (⟨rfl,hJ11⟩ | ⟨rfl,hJ11⟩)
   ·refine ai 12 [.gen,.nw] [bg ((8 * (i:Int))+8)] λ _=>aK 3 (congrArg (λ v_=>(vI v_:Value)) (show (8 * (i:Int)+8)=8 * ((i+1:Nat):Int) by omega)) ?_
    refine mt2 (i+1,T10) [] [0] ?_
    try dsimp only
    exact ⟨⟨by unfold wn at *;omega,hJ11⟩,by unfold wn at *;omega⟩
   ·refine ae 4 [] λ _=>RN.ret [] [] [0] (v:=.tuple #[]) (H':=(ap [] [T10])) ?_
    rw [bj]
    exact .inr hJ11
 ·obtain rfl:i=wn b:=by unfold wn at *;omega
  refine ae 5 [] λ _=>RN.ret [] [] [0] (v:=.tuple #[]) (H':=(ap [] [T_])) ?_
  rw [bj]
  exact .inl (by rw [xW];exact hJ_)
theorem D9 (b:ByteArray) (q:Nat) (F:HL) (hb:b.size <= 1000000) (hq:(q,.lit [.string b] 9 (0,0)) ∈ F):It Tryz.prog 113 #[vP q 0] F HZ (gD b):=by
 intro X l J Jx H0 hY h0
 have key:=BN b q l X F J Jx H0 hb hq hY h0
 rw [bj] at key
 exact key
theorem BO (b:ByteArray) (F:HL):Sp Tryz.prog 85 #[.string b] (ap [] []) F (λ u H'=>∃ n:Nat,H'=ap [((n+0),.lit [.string b] 9 (0,0))] [] /\ u=.func (.func 113) #[] #[vP (n+0) 0]):=by
 refine Sp.run Tryz.func85 rfl mn (A:=[]) (Ts:=[]) rfl λ w0=>?_
 refine ae 12 [] λ n1=>RN.ret [] [0] [] (v:=.func (.func 113) #[] #[vP (n1+0) 0]) (H':=(ap [((n1+0),.lit [.string b] 9 (0,0))] [])) ?_
 exact ⟨_,rfl,rfl⟩
theorem iA (b:ByteArray) (n:Int) (F:HL) (hb:b.size <= 1000000):Sp Tryz.prog 53 #[.string b,vI n] [] F (λ u H'=>u=.int .u64 (cJ b n) /\ H'=[]):=by
 refine Sp.runM Tryz.func53 rfl mn (A:=[]) (Ts:=[]) rfl λ w0=>?_
 refine ae 14 [] λ n1=>RN.ct (Hp:=[]) (Tp:=[]) [] [] (BO b _) ?_
 rintro _ m2 rfl
 refine ae 3 [] λ _=>RN.range (σ:=Nat) (τ:=Nat × Int) (encs:=λ (x_:Int)=>#[.int .u64 x_]) (xs:=(gD b)) (enters_of Tryz.func113 (by kernel_rfl) rfl) (λ m_=>([((n1+0),.lit [.int .u64 (ji b m_)] 45 (0,0))],[])) (λ i_ m_=>m_=i_) (λ c_ m_=>False) (λ ⟨m_,y_⟩=>⟨[(0,.string b),(1,vI n),(5,vP (n1+0) 0),(6,.int .u64 y_)],[((n1+0),.lit [.int .u64 (ji b m_)] 45 (0,0))],[],True,0⟩) (λ i_ x_ ⟨m_,y_⟩=>m_=i_ /\ y_=x_) 0 rfl [1] [] (D9 b (m2+0) _ hb (aB 0)) ?_ ?_ ?_ ?_
 ·rintro l_ i_ x_ m_ Y3 w4 hx5 rfl mt6
  refine ae 3 [] λ _=>?_
  refine mt6 (m_,x_) [0] [] ?_
  try dsimp only
  exact ⟨rfl,rfl⟩
 ·rintro l_ i_ x_ ⟨m_,y_⟩ Y7 w8 hx9 ⟨rfl,ey_⟩
  refine ae 4 [.own 0] λ _=>aj (eE (ji b m_) y_ _)<|ae 3 [.own 0] λ _=>?_
  have e_:ji b (m_+1)=jB (ji b m_) y_:=by rw [ji,ey_,p9 hx9]
  refine cS 0 (congrArg (λ v_=>(.lit [.int .u64 v_] 45 (0,0):Blk)) e_.symm)<|RN.rn (m_+1) [0] [] ?_
  try dsimp only
  first | done | rfl
 ·rintro d10 m_  rfl
  refine ae 8 [.own 1] λ _=>aj (eE (ji b (gD b).length) (IntKind.u64.wrap ((b).size:Int)) _)<|ae 2 [] λ _=>aj (eE (jB (ji b (gD b).length) (IntKind.u64.wrap ((b).size:Int))) (IntKind.u64.wrap n) _)<|ae 3 [] λ _=>?_
  exact RN.retM [d10] [0] [] [] [] ⟨rfl,rfl⟩
 ·exact λ _ _ _ h=>h.elim
theorem m8 (b:ByteArray) (xs:List Int) (q c:Nat) (F:HL) (hb:b.size <= 1000000) (hl:xs.length <= c) (hl2:xs.length <= 1000000) (hq:(q,.rows 1 c (aO xs) 3 (0,0)) ∈ F):Sp Tryz.prog 24 #[.string b,vS q 0 xs.length c] [] F (λ u H'=>u=.int .u64 (kK b xs) /\ H'=[]):=by
 refine Sp.run Tryz.func24 rfl (mc hq mn) (A:=[]) (Ts:=[]) rfl λ w0=>?_
 refine ae 10 [] λ _=>aj (iA b (xs.length:Int) _ (by assumption))<|ae 12 [] λ _=>RN.loop (σ:=Nat) (λ k=>⟨[(5,.int .u64 (tR (cJ b xs.length) xs k)),(12,vS q 0 xs.length c),(13,vI (xs.length:Int)),(14,vI (k:Int))],[],[],k <= xs.length,xs.length - k⟩) 0 [] [] (Nat.zero_le _) ?_
 rintro k hI1 mt2
 refine ae 6 [] λ _=>RN.em ((k:Int) < (xs.length:Int)) 15 (λ h3=>?_) λ h3=>?_
 ·refine ai 16 [.ix k,.rorow 0 k 0] [(0+k * 1)=k * 1+0 /\ k < c,(k:Int)=((k:Nat):Int) /\ k < xs.length] λ _=>aj (eE (tR (cJ b xs.length) xs k) (IntKind.u64.wrap (xs.getD k 0)) _)<|ai 8 [.nw] [bg ((k:Int)+1)] λ _=>?_
  refine mt2 (k+1) [] [] ?_
  try dsimp only
  exact ⟨by omega,by omega⟩
 ·obtain rfl:k=xs.length:=by omega
  refine ae 9 [] λ _=>aj (eE (tR (cJ b xs.length) xs xs.length) 0 _)<|ae 3 [] λ _=>?_
  exact RN.ret [] [] [] ⟨rfl,rfl⟩
structure VR where (M:MemS) (v:Int) (e:Eff) (em:Bool)
def m9:List (Int × Int × Int):=[(0,0,0),(0,1,0),(0,1,16),(1,0,16),(1,1,8),(2,0,8),(0,1,0),(0,1,0),(0,1,0),(2,1,0),(2,1,0),(2,1,0),(2,1,0),(1,1,0),(2,1,0),(2,1,0),(2,1,0),(1,1,0),(0,0,0),(1,0,0),(2,0,0),(0,0,0)]
abbrev eP (op:Int):Int:=(m9.getD op.toNat (0,0,0)).1
abbrev eQ (op:Int):Int:=(m9.getD op.toNat (0,0,0)).2.1
abbrev eN (op:Int):Int:=(m9.getD op.toNat (0,0,0)).2.2
def mm:Nat -> Nat -> Value:=λ i k=>match k with | 0=>vI (m9.getD i (0,0,0)).1 | 1=>vI (m9.getD i (0,0,0)).2.1 | _=>vI (m9.getD i (0,0,0)).2.2
def kL (n:Int):Int:=aG n (-2147483647) 2147483647
def gq (b:Bool):Int:=if b=true then 1 else 0
def eK (op n sp:Int):Bool:=if op < 1 then false else if op > 21 then false else if sp > 16 then false else if sp < eP op then false else if bd (bd (sp - eP op)+eQ op) > 16 then false else if eN op=0 then true else if n >= 0 then decide (n < eN op) else false
def ne (f v:Int):Int:=if f=0 then aG v (-1048576) 1048576 else if f=1 then aG v (-1048576) 1048576 else if f=2 then aG v (-16384) 16384 else if f=3 then aG v (-16384) 16384 else v
abbrev On:ByteArray:=⟨#[101,102,102,101,99,116]⟩
def cL (k v:Int) (M:MemS):VR:=if M.get 11 >= 40 then ⟨M,0,bz,false⟩ else ⟨(M.set 12 (bd ((kK On [M.get 12,M.get 0,k,v]).fdiv 2))).set 11 (bd (M.get 11+1)),0,⟨M.get 0,M.get 11,k,v⟩,true⟩
def aF (S:Setup) (op n a b:Int) (M:MemS):VR :=
 if op=1 then ⟨M,n,bz,false⟩ else if op=2 then ⟨M,M.get (bd (32+n)),bz,false⟩ else if op=6 then ⟨M,M.get 9,bz,false⟩ else if op=7 then ⟨M,M.get 10,bz,false⟩ else if op=8 then ⟨M,M.get 0,bz,false⟩
 else if op=9 then ⟨M,kL (bd (a+b)),bz,false⟩ else if op=10 then ⟨M,kL (bd (a - b)),bz,false⟩ else if op=11 then ⟨M,kL (bd (a * b)),bz,false⟩ else if op=12 then ⟨M,if b=0 then 0 else kL (bd (a.tdiv b)),bz,false⟩
 else if op=14 then ⟨M,gq (decide (a < b)),bz,false⟩ else if op=15 then ⟨M,gq (decide (a <= b)),bz,false⟩ else if op=16 then ⟨M,gq (decide (a=b)),bz,false⟩
 else if op=13 then ⟨M,kL (bd (0 - a)),bz,false⟩ else if op=17 then ⟨M,gq (decide (a=0)),bz,false⟩
 else if op=3 then ⟨M.set (bd (32+n)) a,0,bz,false⟩ else if op=4 then ⟨M,if af S a >= 0 then M.get (bd (af S a+n)) else 0,bz,false⟩ else if op=5 then ⟨if af S a >= 0 then M.set (bd (af S a+n)) (ne n b) else M,0,bz,false⟩
 else if op=18 then ⟨M.set 6 n,0,bz,false⟩ else if op=19 then ⟨if a=0 then M.set 6 n else M,0,bz,false⟩ else if op=20 then ⟨(cL a b M).M,0,(cL a b M).e,(cL a b M).em⟩ else ⟨M,0,bz,false⟩
def dU (op sp:Int) (M:MemS):Int:=if eP op=2 then M.get (bd (bd (16+sp) - eP op)) else if eP op=1 then M.get (bd (bd (16+sp) - eP op)) else 0
def dV (op sp:Int) (M:MemS):Int:=if eP op=2 then M.get (bd (bd (bd (16+sp) - eP op)+1)) else 0
def dC (op sp pc fuel:Int) (M:MemS):MemS:=if eP op=eQ op then (M.set 8 (bd (fuel - 1))).set 6 (bd (pc+1)) else ((M.set 8 (bd (fuel - 1))).set 6 (bd (pc+1))).set 7 (bd (bd (sp - eP op)+eQ op))
def bW (S:Setup) (op n sp pc fuel:Int) (M:MemS):VR:=aF S op n (dU op sp M) (dV op sp M) (dC op sp pc fuel M)
def cj (op sp:Int) (r:VR):VR:=if eQ op > 0 then ⟨r.M.set (bd (bd (16+sp) - eP op)) r.v,r.v,r.e,r.em⟩ else r
abbrev bm (code:List Ins) (M:MemS):Ins:=code.getD (M.get 6).toNat dIns
def dQ (code:List Ins) (n:Nat) (M:MemS):Prop:=¬ M.get 8 < 1 /\ ¬ M.get 6 < 0 /\ ¬ M.get 6 >= (n:Int) /\ eK (bm code M).op (bm code M).n (M.get 7)=true
instance (code:List Ins) (n:Nat) (M:MemS):Decidable (dQ code n M):=inferInstanceAs (Decidable (_ /\ _))
def al (S:Setup) (code:List Ins) (n:Nat) (M:MemS):VR:=if dQ code n M then cj (bm code M).op (M.get 7) (bW S (bm code M).op (bm code M).n (M.get 7) (M.get 6) (M.get 8) M) else ⟨M,0,bz,false⟩
def bu (code:List Ins) (n:Nat) (M:MemS):Bool:=if dQ code n M then decide ((bm code M).op=21) else true
def aN (e fuel self other:Int) (M:MemS):MemS:=if e < 0 then M else ((((M.set 6 e).set 7 0).set 8 fuel).set 9 self).set 10 other
def gQ:Enc Ins:=⟨2,λ p k=>match k with | 0=>vI p.op | 1=>vI p.n | _=>default,dIns⟩
noncomputable def JP:TypeInfo:=match Tryz.prog.info? 176 with | some i=>i | none=>⟨.bool,"",0,0,false,0,0,none,false,#[]⟩
noncomputable def JQ:Value:=match JP.zero with | some z=>z | none=>.bool false
theorem Ea:EncOk gQ Tryz.prog 176 JP JQ where
 info:=by kernel_rfl
 zero:=by kernel_rfl
 size:=by kernel_rfl
 zsize:=by kernel_rfl
 zcell:=λ k hk=>by
  have h:∀ k < 2,JQ.cells[k]?=some (gQ.cell gQ.dflt k):=by intro k hk;(iterate 2 (rcases k with _ | k;· kernel_rfl));omega
  exact h k hk
 one:=λ x k=>by unfold gQ;dsimp only;split <;> rfl
 bytes:=Nat.le_of_ble_eq_true (by kernel_rfl)
abbrev Mx (l:List Ins):Nat -> Nat -> Value:=bn gQ l
inductive CodeIn (F:HL) (code:List Ins):Option Addr -> Nat -> Prop
 | nil (A:Option Addr):CodeIn F code A 0
 | mk (b R n:Nat) (h:(b,.rows 2 R (Mx code) 176 (0,0)) ∈ F) (hn:n <= R) (hn2:n <= 1000000):CodeIn F code (some ⟨b,0,none⟩) n
theorem CodeIn.up {F X:HL} {code:List Ins} {A:Option Addr} {n:Nat} (h:CodeIn F code A n):CodeIn (X++F) code A n:=by
 cases h with
 | nil=>exact .nil _
 | mk b R n h h1 h2=>exact .mk b R n (List.mem_append_right _ h) h1 h2
abbrev dg (F:HL):Prop:=(2,.rows 3 22 mm 320 (0,0)) ∈ F
theorem ng (n:Int)  (F:HL):Sp Tryz.prog 267 #[vI n] [] F (λ u H'=>u=vI (kL n) /\ H'=[]):=by
 refine Sp.run Tryz.func267 rfl mn (A:=[]) (Ts:=[]) rfl λ w0=>?_
 refine ae 8 [] λ _=>aj (cB n (-2147483647) 2147483647  _)<|ae 3 [] λ _=>?_
 exact RN.ret [] [] [] ⟨rfl,rfl⟩
theorem lj (b:Bool) (F:HL):Sp Tryz.prog 272 #[.bool b] [] F (λ u H'=>u=vI (gq b) /\ H'=[]):=by
 refine Sp.run Tryz.func272 rfl mn (A:=[]) (Ts:=[]) rfl λ w0=>?_
 refine ae 11 [] λ _=>i0 (b) 3 (λ h1=>?_) λ h1=>?_
 ·refine ae 6 [] λ _=>RN.ret [] [] [] (v:=vI 1) (H':=[]) ?_
  refine ⟨?_,rfl⟩
  first | (simp only [gq,if_pos h1];done) | (simp only [gq,if_pos h1];rfl) | rfl
 ·refine ae 8 [] λ _=>RN.ret [] [] [] (v:=vI 0) (H':=[]) ?_
  refine ⟨?_,rfl⟩
  first | (simp only [gq,if_neg h1];done) | (simp only [gq,if_neg h1];rfl) | rfl
theorem BP (f:Int) (v:Int)  (F:HL):Sp Tryz.prog 280 #[vI f,vI v] [] F (λ u H'=>u=vI (ne f v) /\ H'=[]):=by
 refine Sp.run Tryz.func280 rfl mn (A:=[]) (Ts:=[]) rfl λ w0=>?_
 refine ae 19 [] λ _=>RN.em (f=0) 6 (λ h1=>?_) λ h1=>?_
 ·refine ae 7 [] λ _=>aj (cB v (-1048576) 1048576  _)<|ae 3 [] λ _=>RN.ret [] [] [] (v:=vI (aG v (-1048576) 1048576)) (H':=[]) ?_
  refine ⟨?_,rfl⟩
  first | (simp only [ne,if_pos h1];done) | (simp only [ne,if_pos h1];rfl) | rfl
 ·refine ae 6 [] λ _=>RN.em (f=1) 6 (λ h2=>?_) λ h2=>?_
  ·refine ae 4 [] λ _=>aj (cB v (-1048576) 1048576  _)<|ae 3 [] λ _=>RN.ret [] [] [] (v:=vI (aG v (-1048576) 1048576)) (H':=[]) ?_
   refine ⟨?_,rfl⟩
   first | (simp only [ne,if_neg h1,if_pos h2];done) | (simp only [ne,if_neg h1,if_pos h2];rfl) | rfl
  ·refine ae 8 [] λ _=>RN.em (f=2) 11 (λ h3=>?_) λ h3=>?_
   ·refine ae 7 [] λ _=>aj (cB v (-16384) 16384  _)<|ae 3 [] λ _=>RN.ret [] [] [] (v:=vI (aG v (-16384) 16384)) (H':=[]) ?_
    refine ⟨?_,rfl⟩
    first | (simp only [ne,if_neg h1,if_neg h2,if_pos h3];done) | (simp only [ne,if_neg h1,if_neg h2,if_pos h3];rfl) | rfl
   ·refine ae 6 [] λ _=>RN.em (f=3) 11 (λ h4=>?_) λ h4=>?_
    ·refine ae 4 [] λ _=>aj (cB v (-16384) 16384  _)<|ae 3 [] λ _=>RN.ret [] [] [] (v:=vI (aG v (-16384) 16384)) (H':=[]) ?_
     refine ⟨?_,rfl⟩
     first | (simp only [ne,if_neg h1,if_neg h2,if_neg h3,if_pos h4];done) | (simp only [ne,if_neg h1,if_neg h2,if_neg h3,if_pos h4];rfl) | rfl
    ·refine ae 10 [] λ _=>RN.ret [] [] [] (v:=vI v) (H':=[]) ?_
     refine ⟨?_,rfl⟩
     first | (simp only [ne,if_neg h1,if_neg h2,if_neg h3,if_neg h4];done) | (simp only [ne,if_neg h1,if_neg h2,if_neg h3,if_neg h4];rfl) | rfl
theorem H3 (op n sp:Int) (F:HL) (hE:dg F):Sp Tryz.prog 221 #[.agg #[vI op,vI n],vI sp] [] F (λ u H'=>u=.bool (eK op n sp) /\ H'=[]):=by
 refine Sp.run Tryz.func221 rfl (mc hE mn) (A:=[]) (Ts:=[]) rfl λ w0=>?_
 refine ae 13 [.own 0] λ n1=>RN.em (op < 1) 9 (λ h2=>?_) λ h2=>?_
 ·refine ae 16 [] λ _=>RN.ret [] [] [] (v:=.bool false) (H':=[]) ?_
  refine ⟨?_,rfl⟩
  first | (simp only [eK,if_pos h2];done) | (simp only [eK,if_pos h2];rfl) | rfl
 ·refine ae 5 [.own 0] λ _=>RN.em (op > 21) 14 (λ h3=>?_) λ h3=>?_
  ·refine ae 11 [] λ _=>RN.ret [] [] [] (v:=.bool false) (H':=[]) ?_
   refine ⟨?_,rfl⟩
   first | (simp only [eK,if_neg h2,if_pos h3];done) | (simp only [eK,if_neg h2,if_pos h3];rfl) | rfl
  ·refine ae 5 [] λ _=>RN.em (sp > 16) 17 (λ h4=>?_) λ h4=>?_
   ·refine ae 6 [] λ _=>RN.ret [] [] [] (v:=.bool false) (H':=[]) ?_
    refine ⟨?_,rfl⟩
    first | (simp only [eK,if_neg h2,if_neg h3,if_pos h4];done) | (simp only [eK,if_neg h2,if_neg h3,if_pos h4];rfl) | rfl
   ·refine ai 21 [.own 0,.ix ((op).toNat),.rorow 0 ((op).toNat) 0,.rorow 0 ((op).toNat) 1,.rorow 0 ((op).toNat) 2,.own 0,.own 0,.own 0,.own 0] [((0+((op).toNat) * 3)+2)=((op).toNat) * 3+2 /\ ((op).toNat) < 22,((0+((op).toNat) * 3)+1)=((op).toNat) * 3+1 /\ ((op).toNat) < 22,(0+((op).toNat) * 3)=((op).toNat) * 3+0 /\ ((op).toNat) < 22,op=(((op).toNat:Nat):Int) /\ (op).toNat < 22] λ n5=>RN.em (sp < eP op) 26 (λ h6=>?_) λ h6=>?_
    ·refine ae 17 [] λ _=>RN.ret [] [] [] (v:=.bool false) (H':=[]) ?_
     refine ⟨?_,rfl⟩
     first | (simp only [eK,if_neg h2,if_neg h3,if_neg h4,if_pos h6];done) | (simp only [eK,if_neg h2,if_neg h3,if_neg h4,if_pos h6];rfl) | rfl
    ·refine ae 11 [.own 0,.own 0] λ _=>RN.em (IntKind.i64.wrap ((IntKind.i64.wrap (sp - (eP op)))+(eQ op)) > 16) 35 (λ h7=>?_) λ h7=>?_
     ·refine ae 6 [] λ _=>RN.ret [] [] [] (v:=.bool false) (H':=[]) ?_
      refine ⟨?_,rfl⟩
      first | (simp only [eK,if_neg h2,if_neg h3,if_neg h4,if_neg h6,if_pos h7];done) | (simp only [eK,if_neg h2,if_neg h3,if_neg h4,if_neg h6,if_pos h7];rfl) | rfl
     ·refine ae 9 [.own 0] λ _=>RN.em (eN op=0) 39 (λ h8=>?_) λ h8=>?_
      ·refine ae 14 [] λ _=>RN.ret [] [] [] (v:=.bool true) (H':=[]) ?_
       refine ⟨?_,rfl⟩
       first | (simp only [eK,if_neg h2,if_neg h3,if_neg h4,if_neg h6,if_neg h7,if_pos h8];done) | (simp only [eK,if_neg h2,if_neg h3,if_neg h4,if_neg h6,if_neg h7,if_pos h8];rfl) | rfl
      ·refine ae 4 [.own 1] λ _=>RN.em (n >= 0) 43 (λ h9=>?_) λ h9=>?_
       ·refine ae 10 [.own 1,.own 0] λ _=>RN.ret [] [] [] (v:=.bool (decide (n < eN op))) (H':=[]) ?_
        refine ⟨?_,rfl⟩
        first | (simp only [eK,if_neg h2,if_neg h3,if_neg h4,if_neg h6,if_neg h7,if_neg h8,if_pos h9];done) | (simp only [eK,if_neg h2,if_neg h3,if_neg h4,if_neg h6,if_neg h7,if_neg h8,if_pos h9];rfl) | rfl
       ·refine ae 10 [] λ _=>RN.ret [] [] [] (v:=.bool false) (H':=[]) ?_
        refine ⟨?_,rfl⟩
        first | (simp only [eK,if_neg h2,if_neg h3,if_neg h4,if_neg h6,if_neg h7,if_neg h8,if_neg h9];done) | (simp only [eK,if_neg h2,if_neg h3,if_neg h4,if_neg h6,if_neg h7,if_neg h8,if_neg h9];rfl) | rfl
theorem ld1 (mb:Nat) (M:MemS) (k:Nat) (T:HL) (n:Int) (F:HL) (hM:MemH mb M k T) (hs:∀ x ∈ T,x ∈ F):Sp Tryz.prog 261 #[.iface 114 (vP mb 0),vI n] [] F (λ u H'=>u=vI (n) /\ H'=[]):=by
 refine Sp.run Tryz.func261 rfl mn (A:=[]) (Ts:=[]) rfl λ w0=>?_
 refine ae 11 [] λ _=>?_
 exact RN.ret [] [] [] ⟨rfl,rfl⟩
theorem ld2 (mb:Nat) (M:MemS) (k:Nat) (T:HL) (n:Int) (F:HL) (hM:MemH mb M k T) (hs:∀ x ∈ T,x ∈ F):Sp Tryz.prog 262 #[.iface 114 (vP mb 0),vI n] [] F (λ u H'=>u=vI (M.get (bd (32+n))) /\ H'=[]):=by
 refine Sp.run Tryz.func262 rfl mn (A:=[]) (Ts:=[]) rfl λ w0=>?_
 refine ae 10 [] λ _=>aj (az (IntKind.i64.wrap (32+n)) hM λ x hx=>aw (hs x hx))<|ae 3 [] λ _=>?_
 exact RN.ret [] [] [] ⟨rfl,rfl⟩
theorem ld3 (mb:Nat) (M:MemS) (k:Nat) (T:HL) (n:Int) (F:HL) (hM:MemH mb M k T) (hs:∀ x ∈ T,x ∈ F):Sp Tryz.prog 263 #[.iface 114 (vP mb 0),vI n] [] F (λ u H'=>u=vI (M.get 9) /\ H'=[]):=by
 refine Sp.run Tryz.func263 rfl mn (A:=[]) (Ts:=[]) rfl λ w0=>?_
 refine ae 8 [] λ _=>aj (az 9 hM λ x hx=>aw (hs x hx))<|ae 3 [] λ _=>?_
 exact RN.ret [] [] [] ⟨rfl,rfl⟩
theorem ld4 (mb:Nat) (M:MemS) (k:Nat) (T:HL) (n:Int) (F:HL) (hM:MemH mb M k T) (hs:∀ x ∈ T,x ∈ F):Sp Tryz.prog 264 #[.iface 114 (vP mb 0),vI n] [] F (λ u H'=>u=vI (M.get 10) /\ H'=[]):=by
 refine Sp.run Tryz.func264 rfl mn (A:=[]) (Ts:=[]) rfl λ w0=>?_
 refine ae 8 [] λ _=>aj (az 10 hM λ x hx=>aw (hs x hx))<|ae 3 [] λ _=>?_
 exact RN.ret [] [] [] ⟨rfl,rfl⟩
theorem ld5 (mb:Nat) (M:MemS) (k:Nat) (T:HL) (n:Int) (F:HL) (hM:MemH mb M k T) (hs:∀ x ∈ T,x ∈ F):Sp Tryz.prog 265 #[.iface 114 (vP mb 0),vI n] [] F (λ u H'=>u=vI (M.get 0) /\ H'=[]):=by
 refine Sp.run Tryz.func265 rfl mn (A:=[]) (Ts:=[]) rfl λ w0=>?_
 refine ae 8 [] λ _=>aj (az 0 hM λ x hx=>aw (hs x hx))<|ae 3 [] λ _=>?_
 exact RN.ret [] [] [] ⟨rfl,rfl⟩
theorem Oo (a b:Int) (F:HL):Sp Tryz.prog 266 #[vI a,vI b] [] F (λ u H'=>u=vI (kL (bd (a+b))) /\ H'=[]):=by
 refine Sp.run Tryz.func266 rfl mn (A:=[]) (Ts:=[]) rfl λ w0=>?_
 refine ae 10 [] λ _=>aj (ng (IntKind.i64.wrap (a+b))  _)<|ae 3 [] λ _=>?_
 exact RN.ret [] [] [] ⟨rfl,rfl⟩
theorem Oq (a b:Int) (F:HL):Sp Tryz.prog 268 #[vI a,vI b] [] F (λ u H'=>u=vI (kL (bd (a - b))) /\ H'=[]):=by
 refine Sp.run Tryz.func268 rfl mn (A:=[]) (Ts:=[]) rfl λ w0=>?_
 refine ae 10 [] λ _=>aj (ng (IntKind.i64.wrap (a - b))  _)<|ae 3 [] λ _=>?_
 exact RN.ret [] [] [] ⟨rfl,rfl⟩
theorem Ot (a b:Int) (F:HL):Sp Tryz.prog 269 #[vI a,vI b] [] F (λ u H'=>u=vI (kL (bd (a * b))) /\ H'=[]):=by
 refine Sp.run Tryz.func269 rfl mn (A:=[]) (Ts:=[]) rfl λ w0=>?_
 refine ae 10 [] λ _=>aj (ng (IntKind.i64.wrap (a * b))  _)<|ae 3 [] λ _=>?_
 exact RN.ret [] [] [] ⟨rfl,rfl⟩
theorem Ou (a b:Int) (F:HL):Sp Tryz.prog 270 #[vI a,vI b] [] F (λ u H'=>u=vI (if b=0 then 0 else kL (bd (a.tdiv b))) /\ H'=[]):=by
 refine Sp.run Tryz.func270 rfl mn (A:=[]) (Ts:=[]) rfl λ w0=>?_
 refine ae 12 [] λ _=>RN.em (b=0) 6 (λ h1=>?_) λ h1=>?_
 ·refine ae 6 [] λ _=>RN.ret [] [] [] (v:=vI 0) (H':=[]) ?_
  exact ⟨by simp [*],rfl⟩
 ·refine ai 8 [.dv] [b ≠ 0] λ _=>aj (ng (IntKind.i64.wrap (a.tdiv b))  _)<|ae 3 [] λ _=>RN.ret [] [] [] (v:=vI (kL (IntKind.i64.wrap (a.tdiv b)))) (H':=[]) ?_
  exact ⟨by simp [*],rfl⟩
theorem Ov (a b:Int) (F:HL):Sp Tryz.prog 271 #[vI a,vI b] [] F (λ u H'=>u=vI (gq (decide (a < b))) /\ H'=[]):=by
 refine Sp.run Tryz.func271 rfl mn (A:=[]) (Ts:=[]) rfl λ w0=>?_
 refine ae 10 [] λ _=>aj (lj (decide (a < b)) _)<|ae 3 [] λ _=>?_
 exact RN.ret [] [] [] ⟨rfl,rfl⟩
theorem Ow (a b:Int) (F:HL):Sp Tryz.prog 273 #[vI a,vI b] [] F (λ u H'=>u=vI (gq (decide (a <= b))) /\ H'=[]):=by
 refine Sp.run Tryz.func273 rfl mn (A:=[]) (Ts:=[]) rfl λ w0=>?_
 refine ae 10 [] λ _=>aj (lj (decide (a <= b)) _)<|ae 3 [] λ _=>?_
 exact RN.ret [] [] [] ⟨rfl,rfl⟩
theorem Ox (a b:Int) (F:HL):Sp Tryz.prog 274 #[vI a,vI b] [] F (λ u H'=>u=vI (gq (decide (a=b))) /\ H'=[]):=by
 refine Sp.run Tryz.func274 rfl mn (A:=[]) (Ts:=[]) rfl λ w0=>?_
 refine ae 10 [] λ _=>aj (lj (decide (a=b)) _)<|ae 3 [] λ _=>?_
 exact RN.ret [] [] [] ⟨rfl,rfl⟩
theorem un1 (a:Int) (F:HL):Sp Tryz.prog 275 #[vI a] [] F (λ u H'=>u=vI (kL (bd (0 - a))) /\ H'=[]):=by
 refine Sp.run Tryz.func275 rfl mn (A:=[]) (Ts:=[]) rfl λ w0=>?_
 refine ae 9 [] λ _=>aj (ng (IntKind.i64.wrap (0 - a))  _)<|ae 3 [] λ _=>?_
 exact RN.ret [] [] [] ⟨rfl,rfl⟩
theorem un2 (a:Int) (F:HL):Sp Tryz.prog 276 #[vI a] [] F (λ u H'=>u=vI (gq (decide (a=0))) /\ H'=[]):=by
 refine Sp.run Tryz.func276 rfl mn (A:=[]) (Ts:=[]) rfl λ w0=>?_
 refine ae 9 [] λ _=>aj (lj (decide (a=0)) _)<|ae 3 [] λ _=>?_
 exact RN.ret [] [] [] ⟨rfl,rfl⟩
theorem My (F:HL):Sp Tryz.prog 246 #[vI 1] [] F (λ u H'=>u=.func (.func 261) #[] #[] /\ H'=[]):=by
 refine Sp.run Tryz.func246 rfl mn (A:=[]) (Ts:=[]) rfl λ w0=>?_
 refine ae 19 (ow 0 11) λ n1=>?_
 exact RN.ret [] [] [] ⟨rfl,rfl⟩
theorem Mz (F:HL):Sp Tryz.prog 246 #[vI 2] [] F (λ u H'=>u=.func (.func 262) #[] #[] /\ H'=[]):=by
 refine Sp.run Tryz.func246 rfl mn (A:=[]) (Ts:=[]) rfl λ w0=>?_
 refine ae 19 (ow 0 11) λ n1=>?_
 exact RN.ret [] [] [] ⟨rfl,rfl⟩
theorem MA (F:HL):Sp Tryz.prog 246 #[vI 6] [] F (λ u H'=>u=.func (.func 263) #[] #[] /\ H'=[]):=by
 refine Sp.run Tryz.func246 rfl mn (A:=[]) (Ts:=[]) rfl λ w0=>?_
 refine ae 19 (ow 0 11) λ n1=>?_
 exact RN.ret [] [] [] ⟨rfl,rfl⟩
theorem MB (F:HL):Sp Tryz.prog 246 #[vI 7] [] F (λ u H'=>u=.func (.func 264) #[] #[] /\ H'=[]):=by
 refine Sp.run Tryz.func246 rfl mn (A:=[]) (Ts:=[]) rfl λ w0=>?_
 refine ae 19 (ow 0 11) λ n1=>?_
 exact RN.ret [] [] [] ⟨rfl,rfl⟩
theorem MC (F:HL):Sp Tryz.prog 246 #[vI 8] [] F (λ u H'=>u=.func (.func 265) #[] #[] /\ H'=[]):=by
 refine Sp.run Tryz.func246 rfl mn (A:=[]) (Ts:=[]) rfl λ w0=>?_
 refine ae 19 (ow 0 11) λ n1=>?_
 exact RN.ret [] [] [] ⟨rfl,rfl⟩
theorem MD (F:HL):Sp Tryz.prog 247 #[vI 9] [] F (λ u H'=>u=.func (.func 266) #[] #[] /\ H'=[]):=by
 refine Sp.run Tryz.func247 rfl mn (A:=[]) (Ts:=[]) rfl λ w0=>?_
 refine ae 21 (ow 0 15) λ n1=>?_
 exact RN.ret [] [] [] ⟨rfl,rfl⟩
theorem Ku (F:HL):Sp Tryz.prog 247 #[vI 10] [] F (λ u H'=>u=.func (.func 268) #[] #[] /\ H'=[]):=by
 refine Sp.run Tryz.func247 rfl mn (A:=[]) (Ts:=[]) rfl λ w0=>?_
 refine ae 21 (ow 0 15) λ n1=>?_
 exact RN.ret [] [] [] ⟨rfl,rfl⟩
theorem Kv (F:HL):Sp Tryz.prog 247 #[vI 11] [] F (λ u H'=>u=.func (.func 269) #[] #[] /\ H'=[]):=by
 refine Sp.run Tryz.func247 rfl mn (A:=[]) (Ts:=[]) rfl λ w0=>?_
 refine ae 21 (ow 0 15) λ n1=>?_
 exact RN.ret [] [] [] ⟨rfl,rfl⟩
theorem Kw (F:HL):Sp Tryz.prog 247 #[vI 12] [] F (λ u H'=>u=.func (.func 270) #[] #[] /\ H'=[]):=by
 refine Sp.run Tryz.func247 rfl mn (A:=[]) (Ts:=[]) rfl λ w0=>?_
 refine ae 21 (ow 0 15) λ n1=>?_
 exact RN.ret [] [] [] ⟨rfl,rfl⟩
theorem Kx (F:HL):Sp Tryz.prog 247 #[vI 14] [] F (λ u H'=>u=.func (.func 271) #[] #[] /\ H'=[]):=by
 refine Sp.run Tryz.func247 rfl mn (A:=[]) (Ts:=[]) rfl λ w0=>?_
 refine ae 21 (ow 0 15) λ n1=>?_
 exact RN.ret [] [] [] ⟨rfl,rfl⟩
theorem Ky (F:HL):Sp Tryz.prog 247 #[vI 15] [] F (λ u H'=>u=.func (.func 273) #[] #[] /\ H'=[]):=by
 refine Sp.run Tryz.func247 rfl mn (A:=[]) (Ts:=[]) rfl λ w0=>?_
 refine ae 21 (ow 0 15) λ n1=>?_
 exact RN.ret [] [] [] ⟨rfl,rfl⟩
theorem Kz (F:HL):Sp Tryz.prog 247 #[vI 16] [] F (λ u H'=>u=.func (.func 274) #[] #[] /\ H'=[]):=by
 refine Sp.run Tryz.func247 rfl mn (A:=[]) (Ts:=[]) rfl λ w0=>?_
 refine ae 21 (ow 0 15) λ n1=>?_
 exact RN.ret [] [] [] ⟨rfl,rfl⟩
theorem KA (F:HL):Sp Tryz.prog 248 #[vI 13] [] F (λ u H'=>u=.func (.func 275) #[] #[] /\ H'=[]):=by
 refine Sp.run Tryz.func248 rfl mn (A:=[]) (Ts:=[]) rfl λ w0=>?_
 refine ae 16 (ow 0 5) λ n1=>?_
 exact RN.ret [] [] [] ⟨rfl,rfl⟩
theorem KB (F:HL):Sp Tryz.prog 248 #[vI 17] [] F (λ u H'=>u=.func (.func 276) #[] #[] /\ H'=[]):=by
 refine Sp.run Tryz.func248 rfl mn (A:=[]) (Ts:=[]) rfl λ w0=>?_
 refine ae 16 (ow 0 5) λ n1=>?_
 exact RN.ret [] [] [] ⟨rfl,rfl⟩
theorem ME (F:HL):Sp Tryz.prog 249 #[vI 3] [] F (λ u H'=>u=.func (.func 277) #[] #[] /\ H'=[]):=by
 refine Sp.run Tryz.func249 rfl mn (A:=[]) (Ts:=[]) rfl λ w0=>?_
 refine ae 21 (ow 0 15) λ n1=>?_
 exact RN.ret [] [] [] ⟨rfl,rfl⟩
theorem MF (F:HL):Sp Tryz.prog 249 #[vI 4] [] F (λ u H'=>u=.func (.func 278) #[] #[] /\ H'=[]):=by
 refine Sp.run Tryz.func249 rfl mn (A:=[]) (Ts:=[]) rfl λ w0=>?_
 refine ae 21 (ow 0 15) λ n1=>?_
 exact RN.ret [] [] [] ⟨rfl,rfl⟩
theorem MG (F:HL):Sp Tryz.prog 249 #[vI 5] [] F (λ u H'=>u=.func (.func 279) #[] #[] /\ H'=[]):=by
 refine Sp.run Tryz.func249 rfl mn (A:=[]) (Ts:=[]) rfl λ w0=>?_
 refine ae 21 (ow 0 15) λ n1=>?_
 exact RN.ret [] [] [] ⟨rfl,rfl⟩
theorem KC (F:HL):Sp Tryz.prog 249 #[vI 18] [] F (λ u H'=>u=.func (.func 281) #[] #[] /\ H'=[]):=by
 refine Sp.run Tryz.func249 rfl mn (A:=[]) (Ts:=[]) rfl λ w0=>?_
 refine ae 21 (ow 0 15) λ n1=>?_
 exact RN.ret [] [] [] ⟨rfl,rfl⟩
theorem KD (F:HL):Sp Tryz.prog 249 #[vI 19] [] F (λ u H'=>u=.func (.func 282) #[] #[] /\ H'=[]):=by
 refine Sp.run Tryz.func249 rfl mn (A:=[]) (Ts:=[]) rfl λ w0=>?_
 refine ae 21 (ow 0 15) λ n1=>?_
 exact RN.ret [] [] [] ⟨rfl,rfl⟩
theorem KE (F:HL):Sp Tryz.prog 249 #[vI 20] [] F (λ u H'=>u=.func (.func 283) #[] #[] /\ H'=[]):=by
 refine Sp.run Tryz.func249 rfl mn (A:=[]) (Ts:=[]) rfl λ w0=>?_
 refine ae 21 (ow 0 15) λ n1=>?_
 exact RN.ret [] [] [] ⟨rfl,rfl⟩
theorem KF (F:HL):Sp Tryz.prog 249 #[vI 21] [] F (λ u H'=>u=.func (.func 285) #[] #[] /\ H'=[]):=by
 refine Sp.run Tryz.func249 rfl mn (A:=[]) (Ts:=[]) rfl λ w0=>?_
 refine ae 21 (ow 0 15) λ n1=>?_
 exact RN.ret [] [] [] ⟨rfl,rfl⟩
theorem KG (mb:Nat) (M:MemS) (k:Nat) (T:HL) (kd v:Int) (F:HL) (hM:MemH mb M (k+2) T) :Sp Tryz.prog 284 #[.iface 114 (vP mb 0),vI kd,vI v] (ap [] [T]) F (λ u H'=>∃ x,H'=ap [] [x] /\ (MemH mb ((cL kd v M).M) k x /\ u=.tuple #[.agg #[vI ((cL kd v M).e.t),vI ((cL kd v M).e.i),vI ((cL kd v M).e.k),vI ((cL kd v M).e.v)],.bool ((cL kd v M).em)])):=by
 refine Sp.run Tryz.func284 rfl mn (A:=[]) (Ts:=[T]) rfl λ w0=>?_
 refine ae 9 [] λ n1=>aj (az 11 hM (av 0))<|ae 10 [] λ _=>RN.em (M.get 11 >= 40) 14 (λ h2=>?_) λ h2=>?_
 ·refine ae 8 [.own 0,.own 0,.own 0,.own 0] λ _=>RN.ret [.own 0,.own 0,.own 0,.own 0] [] [0] (v:=.tuple #[.agg #[vI 0,vI 0,vI 0,vI 0],.bool false]) (H':=(ap [] [T])) ?_
  refine ⟨T,rfl,?_⟩
  refine ⟨?_,?_⟩
  ·simp only [cL,if_pos h2];exact hM.weak (by omega)
  ·simp only [cL,if_pos h2]
 ·refine ae 6 [] λ _=>aj (az 0 hM (av 0))<|ae 6 [] λ _=>aj (az 12 hM (av 0))<|ae 4 [] λ n3=>RN.dn 0 (.rows 1 4 (aO [M.get 12,M.get 0,kd,v]) 3 (0,0))<|aj (m8 (⟨#[101,102,102,101,99,116]⟩) ([M.get 12,M.get 0,kd,v]) (n3+0) 4 _ (by decide) (Nat.le_of_ble_eq_true rfl) (Nat.le_of_ble_eq_true rfl) (aB 0))<|ae 9 [] λ _=>RN.ct [] [0] (ak 12 (IntKind.i64.wrap ((kK (⟨#[101,102,102,101,99,116]⟩) ([M.get 12,M.get 0,kd,v])).fdiv 2)) hM) ?_
  rintro _ T4 hM5
  refine ae 7 [] λ _=>RN.ct [] [0] (ak 11 (IntKind.i64.wrap ((M.get 11)+1)) hM5) ?_
  rintro _ T6 hM7
  refine ae 13 [.own 1,.own 1,.own 1,.own 1] λ _=>RN.ret [.own 1,.own 1,.own 1,.own 1] [] [0] (v:=.tuple #[.agg #[vI (M.get 0),vI (M.get 11),vI kd,vI v],.bool true]) (H':=(ap [] [T6])) ?_
  refine ⟨T6,rfl,?_⟩
  refine ⟨?_,?_⟩
  ·simp only [cL,if_neg h2];exact hM7.weak (by omega)
  ·simp only [cL,if_neg h2]
theorem Oy (mb:Nat) (M:MemS) (k:Nat) (T:HL) (S:Setup) (n a b:Int) (F:HL) (hM:MemH mb M (k+1) T) (hS:SetN S):Sp Tryz.prog 277 #[.iface 114 (vP mb 0),(Setup.v S),.agg #[vI n,vI a,vI b]] (ap [] [T]) F (λ u H'=>∃ x,H'=ap [] [x] /\ (MemH mb (M.set (bd (32+n)) a) k x /\ u=.tuple #[vI 0,.agg #[vI 0,vI 0,vI 0,vI 0],.bool false])):=by
 have h1:=hS.pl
 have h2:=hS.nb
 refine Sp.run Tryz.func277 rfl mn (A:=[]) (Ts:=[T]) rfl λ w0=>?_
 refine ae 17 [.own 1,.own 1] λ n1=>RN.ct [] [0] (ak (IntKind.i64.wrap (32+n)) a hM) ?_
 rintro _ T2 hM3
 refine ae 10 [.own 0,.own 0,.own 0,.own 0] λ _=>RN.ret [.own 0,.own 0,.own 0,.own 0] [] [0] (v:=.tuple #[vI 0,.agg #[vI 0,vI 0,vI 0,vI 0],.bool false]) (H':=(ap [] [T2])) ?_
 refine ⟨T2,rfl,?_⟩
 refine ⟨?_,?_⟩
 ·first | (simp only [];exact hM3.weak (by omega)) | exact hM3.weak (by omega)
 ·first | rfl | (simp only [];done) | (simp only [];rfl)
theorem Oz (mb:Nat) (M:MemS) (k:Nat) (T:HL) (S:Setup) (n a b:Int) (F:HL) (hM:MemH mb M (k+0) T) (hS:SetN S):Sp Tryz.prog 278 #[.iface 114 (vP mb 0),(Setup.v S),.agg #[vI n,vI a,vI b]] (ap [] [T]) F (λ u H'=>∃ x,H'=ap [] [x] /\ (MemH mb (M) k x /\ u=.tuple #[vI (if af S a >= 0 then M.get (bd (af S a+n)) else 0),.agg #[vI 0,vI 0,vI 0,vI 0],.bool false])):=by
 have h1:=hS.pl
 have h2:=hS.nb
 refine Sp.run Tryz.func278 rfl mn (A:=[]) (Ts:=[T]) rfl λ w0=>?_
 refine ae 15 (ow 2 16++[.own 1]) λ n1=>aj (cI S a _ hS) ?_
 have hb2:=cH hS a
 refine ae 9 [] λ _=>RN.em (af S a >= 0) 15 (λ h3=>?_) λ h3=>?_
 ·refine ae 8 [.own 1] λ _=>aj (az (IntKind.i64.wrap ((af S a)+n)) hM (av 0))<|ae 6 [.own 0,.own 0,.own 0,.own 0] λ _=>RN.ret [.own 0,.own 0,.own 0,.own 0] [] [0] (v:=.tuple #[vI (M.get (IntKind.i64.wrap ((af S a)+n))),.agg #[vI 0,vI 0,vI 0,vI 0],.bool false]) (H':=(ap [] [T])) ?_
  refine ⟨T,rfl,?_⟩
  refine ⟨?_,?_⟩
  ·first | (simp only [if_pos h3];exact hM.weak (by omega)) | exact hM.weak (by omega)
  ·first | rfl | (simp only [if_pos h3];done) | (simp only [if_pos h3];rfl)
 ·refine ae 11 [.own 0,.own 0,.own 0,.own 0] λ _=>RN.ret [.own 0,.own 0,.own 0,.own 0] [] [0] (v:=.tuple #[vI 0,.agg #[vI 0,vI 0,vI 0,vI 0],.bool false]) (H':=(ap [] [T])) ?_
  refine ⟨T,rfl,?_⟩
  refine ⟨?_,?_⟩
  ·first | (simp only [if_neg h3];exact hM.weak (by omega)) | exact hM.weak (by omega)
  ·first | rfl | (simp only [if_neg h3];done) | (simp only [if_neg h3];rfl)
theorem OA (mb:Nat) (M:MemS) (k:Nat) (T:HL) (S:Setup) (n a b:Int) (F:HL) (hM:MemH mb M (k+1) T) (hS:SetN S):Sp Tryz.prog 279 #[.iface 114 (vP mb 0),(Setup.v S),.agg #[vI n,vI a,vI b]] (ap [] [T]) F (λ u H'=>∃ x,H'=ap [] [x] /\ (MemH mb (if af S a >= 0 then M.set (bd (af S a+n)) (ne n b) else M) k x /\ u=.tuple #[vI 0,.agg #[vI 0,vI 0,vI 0,vI 0],.bool false])):=by
 have h1:=hS.pl
 have h2:=hS.nb
 refine Sp.run Tryz.func279 rfl mn (A:=[]) (Ts:=[T]) rfl λ w0=>?_
 refine ae 15 (ow 2 16++[.own 1]) λ n1=>aj (cI S a _ hS) ?_
 have hb2:=cH hS a
 refine ae 9 [] λ _=>RN.em (af S a >= 0) 15 (λ h3=>?_) λ h3=>?_
 ·refine ae 1 [] λ _=>RN.draw [13] []<|ag [] [0,1,2,5,7,3,6,8,10,4,11,12] [.own 1,.own 1,.own 1]<|au [] 9 (λ X_=>(BP n b  _))<|RD.one 13 (RDO.ct [] [] [0] (ak (IntKind.i64.wrap ((af S a)+n)) (ne n b) hM) ?_)
  rintro _ T4 hM5
  refine RD.fin<|ae 9 [.own 0,.own 0,.own 0,.own 0] λ _=>RN.ret [.own 0,.own 0,.own 0,.own 0] [] [0] (v:=.tuple #[vI 0,.agg #[vI 0,vI 0,vI 0,vI 0],.bool false]) (H':=(ap [] [T4])) ?_
  refine ⟨T4,rfl,?_⟩
  refine ⟨?_,?_⟩
  ·first | (simp only [if_pos h3];exact hM5.weak (by omega)) | exact hM5.weak (by omega)
  ·first | rfl | (simp only [if_pos h3];done) | (simp only [if_pos h3];rfl)
 ·refine ae 11 [.own 0,.own 0,.own 0,.own 0] λ _=>RN.ret [.own 0,.own 0,.own 0,.own 0] [] [0] (v:=.tuple #[vI 0,.agg #[vI 0,vI 0,vI 0,vI 0],.bool false]) (H':=(ap [] [T])) ?_
  refine ⟨T,rfl,?_⟩
  refine ⟨?_,?_⟩
  ·first | (simp only [if_neg h3];exact hM.weak (by omega)) | exact hM.weak (by omega)
  ·first | rfl | (simp only [if_neg h3];done) | (simp only [if_neg h3];rfl)
theorem MH (mb:Nat) (M:MemS) (k:Nat) (T:HL) (S:Setup) (n a b:Int) (F:HL) (hM:MemH mb M (k+1) T) (hS:SetN S):Sp Tryz.prog 281 #[.iface 114 (vP mb 0),(Setup.v S),.agg #[vI n,vI a,vI b]] (ap [] [T]) F (λ u H'=>∃ x,H'=ap [] [x] /\ (MemH mb (M.set 6 n) k x /\ u=.tuple #[vI 0,.agg #[vI 0,vI 0,vI 0,vI 0],.bool false])):=by
 have h1:=hS.pl
 have h2:=hS.nb
 refine Sp.run Tryz.func281 rfl mn (A:=[]) (Ts:=[T]) rfl λ w0=>?_
 refine ae 14 [.own 1] λ n1=>RN.ct [] [0] (ak 6 n hM) ?_
 rintro _ T2 hM3
 refine ae 10 [.own 0,.own 0,.own 0,.own 0] λ _=>RN.ret [.own 0,.own 0,.own 0,.own 0] [] [0] (v:=.tuple #[vI 0,.agg #[vI 0,vI 0,vI 0,vI 0],.bool false]) (H':=(ap [] [T2])) ?_
 refine ⟨T2,rfl,?_⟩
 refine ⟨?_,?_⟩
 ·first | (simp only [];exact hM3.weak (by omega)) | exact hM3.weak (by omega)
 ·first | rfl | (simp only [];done) | (simp only [];rfl)
theorem MI (mb:Nat) (M:MemS) (k:Nat) (T:HL) (S:Setup) (n a b:Int) (F:HL) (hM:MemH mb M (k+1) T) (hS:SetN S):Sp Tryz.prog 282 #[.iface 114 (vP mb 0),(Setup.v S),.agg #[vI n,vI a,vI b]] (ap [] [T]) F (λ u H'=>∃ x,H'=ap [] [x] /\ (MemH mb (if a=0 then M.set 6 n else M) k x /\ u=.tuple #[vI 0,.agg #[vI 0,vI 0,vI 0,vI 0],.bool false])):=by
 have h1:=hS.pl
 have h2:=hS.nb
 refine Sp.run Tryz.func282 rfl mn (A:=[]) (Ts:=[T]) rfl λ w0=>?_
 refine ae 17 [.own 1] λ n1=>RN.em (a=0) 11 (λ h2=>?_) λ h2=>?_
 ·refine ae 5 [.own 1] λ _=>RN.ct [] [0] (ak 6 n hM) ?_
  rintro _ T3 hM4
  refine ae 10 [.own 0,.own 0,.own 0,.own 0] λ _=>RN.ret [.own 0,.own 0,.own 0,.own 0] [] [0] (v:=.tuple #[vI 0,.agg #[vI 0,vI 0,vI 0,vI 0],.bool false]) (H':=(ap [] [T3])) ?_
  refine ⟨T3,rfl,?_⟩
  refine ⟨?_,?_⟩
  ·first | (simp only [if_pos h2];exact hM4.weak (by omega)) | exact hM4.weak (by omega)
  ·first | rfl | (simp only [if_pos h2];done) | (simp only [if_pos h2];rfl)
 ·refine ae 11 [.own 0,.own 0,.own 0,.own 0] λ _=>RN.ret [.own 0,.own 0,.own 0,.own 0] [] [0] (v:=.tuple #[vI 0,.agg #[vI 0,vI 0,vI 0,vI 0],.bool false]) (H':=(ap [] [T])) ?_
  refine ⟨T,rfl,?_⟩
  refine ⟨?_,?_⟩
  ·first | (simp only [if_neg h2];exact hM.weak (by omega)) | exact hM.weak (by omega)
  ·first | rfl | (simp only [if_neg h2];done) | (simp only [if_neg h2];rfl)
theorem MJ (mb:Nat) (M:MemS) (k:Nat) (T:HL) (S:Setup) (n a b:Int) (F:HL) (hM:MemH mb M (k+2) T) (hS:SetN S):Sp Tryz.prog 283 #[.iface 114 (vP mb 0),(Setup.v S),.agg #[vI n,vI a,vI b]] (ap [] [T]) F (λ u H'=>∃ x,H'=ap [] [x] /\ (MemH mb ((cL a b M).M) k x /\ u=.tuple #[vI 0,.agg #[vI ((cL a b M).e.t),vI ((cL a b M).e.i),vI ((cL a b M).e.k),vI ((cL a b M).e.v)],.bool ((cL a b M).em)])):=by
 have h1:=hS.pl
 have h2:=hS.nb
 refine Sp.run Tryz.func283 rfl mn (A:=[]) (Ts:=[T]) rfl λ w0=>?_
 refine ae 16 [.own 1,.own 1] λ n1=>RN.ct [] [0] (KG mb M k T a b _ hM) ?_
 rintro _ T2 ⟨hM3,rfl⟩
 refine ae 9 [.own 0,.own 0,.own 0,.own 0] λ n4=>RN.draw [3] [0,2,3]<|ag [0,2,3] [0,1,2] [.own 0,.own 0,.own 0,.own 0]<|RD.one 3 (RDO.ev [0,2,3] [.own 1,.own 1,.own 1,.own 1] λ _=>?_)
 refine ag [0,2,3] [4] []<|RD.fin<|ae 1 [] λ _=>RN.ret [.own 1,.own 1,.own 1,.own 1] [] [0] (v:=.tuple #[vI 0,.agg #[vI ((cL a b M).e.t),vI ((cL a b M).e.i),vI ((cL a b M).e.k),vI ((cL a b M).e.v)],.bool ((cL a b M).em)]) (H':=(ap [] [T2])) ?_
 refine ⟨T2,rfl,?_⟩
 refine ⟨?_,?_⟩
 ·first | (simp only [];exact hM3.weak (by omega)) | exact hM3.weak (by omega)
 ·first | rfl | (simp only [];done) | (simp only [];rfl)
theorem MK (mb:Nat) (M:MemS) (k:Nat) (T:HL) (S:Setup) (n a b:Int) (F:HL) (hM:MemH mb M (k+0) T) (hS:SetN S):Sp Tryz.prog 285 #[.iface 114 (vP mb 0),(Setup.v S),.agg #[vI n,vI a,vI b]] (ap [] [T]) F (λ u H'=>∃ x,H'=ap [] [x] /\ (MemH mb (M) k x /\ u=.tuple #[vI 0,.agg #[vI 0,vI 0,vI 0,vI 0],.bool false])):=by
 have h1:=hS.pl
 have h2:=hS.nb
 refine Sp.run Tryz.func285 rfl mn (A:=[]) (Ts:=[T]) rfl λ w0=>?_
 refine ae 17 [.own 0,.own 0,.own 0,.own 0] λ n1=>RN.ret [.own 0,.own 0,.own 0,.own 0] [] [0] (v:=.tuple #[vI 0,.agg #[vI 0,vI 0,vI 0,vI 0],.bool false]) (H':=(ap [] [T])) ?_
 refine ⟨T,rfl,?_⟩
 refine ⟨?_,?_⟩
 ·first | (simp only [];exact hM.weak (by omega)) | exact hM.weak (by omega)
 ·first | rfl | (simp only [];done) | (simp only [];rfl)
theorem jC (mb:Nat) (M:MemS) (k:Nat) (T:HL) (S:Setup) (op n a b:Int) (F:HL) (hM:MemH mb M (k+2) T) (hS:SetN S) (ho:1 <= op /\ op <= 21):Sp Tryz.prog 222 #[vI op,.iface 114 (vP mb 0),(Setup.v S),.agg #[vI n,vI a,vI b]] (ap [] [T]) F (λ u H'=>∃ x,H'=ap [] [x] /\ (MemH mb ((aF S op n a b M).M) k x /\ u=.tuple #[vI ((aF S op n a b M).v),.agg #[vI ((aF S op n a b M).e.t),vI ((aF S op n a b M).e.i),vI ((aF S op n a b M).e.k),vI ((aF S op n a b M).e.v)],.bool ((aF S op n a b M).em)])):=by
 refine Sp.run Tryz.func222 rfl mn (A:=[]) (Ts:=[T]) rfl λ w0=>?_
 refine ae 23 [] λ n1=>RN.em (op=1) 12 (λ h2=>?_) λ h2=>?_
 ·subst h2
  refine ae 5 [] λ _=>RN.draw [8] [1,2]<|ag [1,2] [0,2,3,6,4] [.own 1]<|au [1,2] 1 (λ X_=>(My _))<|au [1,2] 5 (λ X_=>(ld1 mb M _ T n _ hM (aU 0)))<|ag [1,2] [7] []<|RD.one 8 (RDO.ev [1,2] [.own 0,.own 0,.own 0,.own 0] λ _=>?_)
  refine ag [1,2] [9] []<|RD.fin<|ae 1 [] λ _=>RN.ret [.own 0,.own 0,.own 0,.own 0] [] [0] (v:=.tuple #[vI n,.agg #[vI 0,vI 0,vI 0,vI 0],.bool false]) (H':=(ap [] [T])) ?_
  refine ⟨T,rfl,?_⟩
  exact ⟨hM.weak (by omega),rfl⟩
 ·refine ae 7 [] λ _=>RN.em (op=2) 12 (λ h3=>?_) λ h3=>?_
  ·subst h3
   refine ae 5 [] λ _=>RN.draw [8] [1,2]<|ag [1,2] [0,2,3,6,4] [.own 1]<|au [1,2] 1 (λ X_=>(Mz _))<|au [1,2] 5 (λ X_=>(ld2 mb M _ T n _ hM (aU 0)))<|ag [1,2] [7] []<|RD.one 8 (RDO.ev [1,2] [.own 0,.own 0,.own 0,.own 0] λ _=>?_)
   refine ag [1,2] [9] []<|RD.fin<|ae 1 [] λ _=>RN.ret [.own 0,.own 0,.own 0,.own 0] [] [0] (v:=.tuple #[vI (M.get (bd (32+n))),.agg #[vI 0,vI 0,vI 0,vI 0],.bool false]) (H':=(ap [] [T])) ?_
   refine ⟨T,rfl,?_⟩
   exact ⟨hM.weak (by omega),rfl⟩
  ·refine ae 7 [] λ _=>RN.em (op=6) 12 (λ h4=>?_) λ h4=>?_
   ·subst h4
    refine ae 5 [] λ _=>RN.draw [8] [1,2]<|ag [1,2] [0,2,3,6,4] [.own 1]<|au [1,2] 1 (λ X_=>(MA _))<|au [1,2] 5 (λ X_=>(ld3 mb M _ T n _ hM (aU 0)))<|ag [1,2] [7] []<|RD.one 8 (RDO.ev [1,2] [.own 0,.own 0,.own 0,.own 0] λ _=>?_)
    refine ag [1,2] [9] []<|RD.fin<|ae 1 [] λ _=>RN.ret [.own 0,.own 0,.own 0,.own 0] [] [0] (v:=.tuple #[vI (M.get 9),.agg #[vI 0,vI 0,vI 0,vI 0],.bool false]) (H':=(ap [] [T])) ?_
    refine ⟨T,rfl,?_⟩
    exact ⟨hM.weak (by omega),rfl⟩
   ·refine ae 7 [] λ _=>RN.em (op=7) 12 (λ h5=>?_) λ h5=>?_
    ·subst h5
     refine ae 5 [] λ _=>RN.draw [8] [1,2]<|ag [1,2] [0,2,3,6,4] [.own 1]<|au [1,2] 1 (λ X_=>(MB _))<|au [1,2] 5 (λ X_=>(ld4 mb M _ T n _ hM (aU 0)))<|ag [1,2] [7] []<|RD.one 8 (RDO.ev [1,2] [.own 0,.own 0,.own 0,.own 0] λ _=>?_)
     refine ag [1,2] [9] []<|RD.fin<|ae 1 [] λ _=>RN.ret [.own 0,.own 0,.own 0,.own 0] [] [0] (v:=.tuple #[vI (M.get 10),.agg #[vI 0,vI 0,vI 0,vI 0],.bool false]) (H':=(ap [] [T])) ?_
     refine ⟨T,rfl,?_⟩
     exact ⟨hM.weak (by omega),rfl⟩
    ·refine ae 6 [] λ _=>RN.em (op=8) 12 (λ h6=>?_) λ h6=>?_
     ·subst h6
      refine ae 2 [] λ _=>RN.draw [8] [1,2]<|ag [1,2] [0,2,3,6,4] [.own 1]<|au [1,2] 1 (λ X_=>(MC _))<|au [1,2] 5 (λ X_=>(ld5 mb M _ T n _ hM (aU 0)))<|ag [1,2] [7] []<|RD.one 8 (RDO.ev [1,2] [.own 0,.own 0,.own 0,.own 0] λ _=>?_)
      refine ag [1,2] [9] []<|RD.fin<|ae 1 [] λ _=>RN.ret [.own 0,.own 0,.own 0,.own 0] [] [0] (v:=.tuple #[vI (M.get 0),.agg #[vI 0,vI 0,vI 0,vI 0],.bool false]) (H':=(ap [] [T])) ?_
      refine ⟨T,rfl,?_⟩
      exact ⟨hM.weak (by omega),rfl⟩
     ·refine ae 8 [] λ _=>RN.em (op=9) 25 (λ h7=>?_) λ h7=>?_
      ·subst h7
       refine ae 5 [] λ _=>RN.draw [9] [1,2]<|ag [1,2] [0,2,4,7,3,5] [.own 1,.own 1]<|au [1,2] 1 (λ X_=>(MD _))<|au [1,2] 6 (λ X_=>(Oo a b _))<|ag [1,2] [8] []<|RD.one 9 (RDO.ev [1,2] [.own 0,.own 0,.own 0,.own 0] λ _=>?_)
       refine ag [1,2] [10] []<|RD.fin<|ae 1 [] λ _=>RN.ret [.own 0,.own 0,.own 0,.own 0] [] [0] (v:=.tuple #[vI (kL (bd (a+b))),.agg #[vI 0,vI 0,vI 0,vI 0],.bool false]) (H':=(ap [] [T])) ?_
       refine ⟨T,rfl,?_⟩
       exact ⟨hM.weak (by omega),rfl⟩
      ·refine ae 7 [] λ _=>RN.em (op=10) 25 (λ h8=>?_) λ h8=>?_
       ·subst h8
        refine ae 5 [] λ _=>RN.draw [9] [1,2]<|ag [1,2] [0,2,4,7,3,5] [.own 1,.own 1]<|au [1,2] 1 (λ X_=>(Ku _))<|au [1,2] 6 (λ X_=>(Oq a b _))<|ag [1,2] [8] []<|RD.one 9 (RDO.ev [1,2] [.own 0,.own 0,.own 0,.own 0] λ _=>?_)
        refine ag [1,2] [10] []<|RD.fin<|ae 1 [] λ _=>RN.ret [.own 0,.own 0,.own 0,.own 0] [] [0] (v:=.tuple #[vI (kL (bd (a - b))),.agg #[vI 0,vI 0,vI 0,vI 0],.bool false]) (H':=(ap [] [T])) ?_
        refine ⟨T,rfl,?_⟩
        exact ⟨hM.weak (by omega),rfl⟩
       ·refine ae 7 [] λ _=>RN.em (op=11) 25 (λ h9=>?_) λ h9=>?_
        ·subst h9
         refine ae 5 [] λ _=>RN.draw [9] [1,2]<|ag [1,2] [0,2,4,7,3,5] [.own 1,.own 1]<|au [1,2] 1 (λ X_=>(Kv _))<|au [1,2] 6 (λ X_=>(Ot a b _))<|ag [1,2] [8] []<|RD.one 9 (RDO.ev [1,2] [.own 0,.own 0,.own 0,.own 0] λ _=>?_)
         refine ag [1,2] [10] []<|RD.fin<|ae 1 [] λ _=>RN.ret [.own 0,.own 0,.own 0,.own 0] [] [0] (v:=.tuple #[vI (kL (bd (a * b))),.agg #[vI 0,vI 0,vI 0,vI 0],.bool false]) (H':=(ap [] [T])) ?_
         refine ⟨T,rfl,?_⟩
         exact ⟨hM.weak (by omega),rfl⟩
        ·refine ae 7 [] λ _=>RN.em (op=12) 25 (λ h10=>?_) λ h10=>?_
         ·subst h10
          refine ae 5 [] λ _=>RN.draw [9] [1,2]<|ag [1,2] [0,2,4,7,3,5] [.own 1,.own 1]<|au [1,2] 1 (λ X_=>(Kw _))<|au [1,2] 6 (λ X_=>(Ou a b _))<|ag [1,2] [8] []<|RD.one 9 (RDO.ev [1,2] [.own 0,.own 0,.own 0,.own 0] λ _=>?_)
          refine ag [1,2] [10] []<|RD.fin<|ae 1 [] λ _=>RN.ret [.own 0,.own 0,.own 0,.own 0] [] [0] (v:=.tuple #[vI (if b=0 then 0 else kL (bd (a.tdiv b))),.agg #[vI 0,vI 0,vI 0,vI 0],.bool false]) (H':=(ap [] [T])) ?_
          refine ⟨T,rfl,?_⟩
          exact ⟨hM.weak (by omega),rfl⟩
         ·refine ae 7 [] λ _=>RN.em (op=14) 25 (λ h11=>?_) λ h11=>?_
          ·subst h11
           refine ae 5 [] λ _=>RN.draw [9] [1,2]<|ag [1,2] [0,2,4,7,3,5] [.own 1,.own 1]<|au [1,2] 1 (λ X_=>(Kx _))<|au [1,2] 6 (λ X_=>(Ov a b _))<|ag [1,2] [8] []<|RD.one 9 (RDO.ev [1,2] [.own 0,.own 0,.own 0,.own 0] λ _=>?_)
           refine ag [1,2] [10] []<|RD.fin<|ae 1 [] λ _=>RN.ret [.own 0,.own 0,.own 0,.own 0] [] [0] (v:=.tuple #[vI (gq (decide (a < b))),.agg #[vI 0,vI 0,vI 0,vI 0],.bool false]) (H':=(ap [] [T])) ?_
           refine ⟨T,rfl,?_⟩
           exact ⟨hM.weak (by omega),rfl⟩
          ·refine ae 7 [] λ _=>RN.em (op=15) 25 (λ h12=>?_) λ h12=>?_
           ·subst h12
            refine ae 5 [] λ _=>RN.draw [9] [1,2]<|ag [1,2] [0,2,4,7,3,5] [.own 1,.own 1]<|au [1,2] 1 (λ X_=>(Ky _))<|au [1,2] 6 (λ X_=>(Ow a b _))<|ag [1,2] [8] []<|RD.one 9 (RDO.ev [1,2] [.own 0,.own 0,.own 0,.own 0] λ _=>?_)
            refine ag [1,2] [10] []<|RD.fin<|ae 1 [] λ _=>RN.ret [.own 0,.own 0,.own 0,.own 0] [] [0] (v:=.tuple #[vI (gq (decide (a <= b))),.agg #[vI 0,vI 0,vI 0,vI 0],.bool false]) (H':=(ap [] [T])) ?_
            refine ⟨T,rfl,?_⟩
            exact ⟨hM.weak (by omega),rfl⟩
           ·refine ae 6 [] λ _=>RN.em (op=16) 25 (λ h13=>?_) λ h13=>?_
            ·subst h13
             refine ae 2 [] λ _=>RN.draw [9] [1,2]<|ag [1,2] [0,2,4,7,3,5] [.own 1,.own 1]<|au [1,2] 1 (λ X_=>(Kz _))<|au [1,2] 6 (λ X_=>(Ox a b _))<|ag [1,2] [8] []<|RD.one 9 (RDO.ev [1,2] [.own 0,.own 0,.own 0,.own 0] λ _=>?_)
             refine ag [1,2] [10] []<|RD.fin<|ae 1 [] λ _=>RN.ret [.own 0,.own 0,.own 0,.own 0] [] [0] (v:=.tuple #[vI (gq (decide (a=b))),.agg #[vI 0,vI 0,vI 0,vI 0],.bool false]) (H':=(ap [] [T])) ?_
             refine ⟨T,rfl,?_⟩
             exact ⟨hM.weak (by omega),rfl⟩
            ·refine ae 8 [] λ _=>RN.em (op=13) 41 (λ h14=>?_) λ h14=>?_
             ·subst h14
              refine ae 5 [] λ _=>RN.draw [7] [1,2]<|ag [1,2] [0,2,5,3] [.own 1]<|au [1,2] 1 (λ X_=>(KA _))<|au [1,2] 4 (λ X_=>(un1 a _))<|ag [1,2] [6] []<|RD.one 7 (RDO.ev [1,2] [.own 0,.own 0,.own 0,.own 0] λ _=>?_)
              refine ag [1,2] [8] []<|RD.fin<|ae 1 [] λ _=>RN.ret [.own 0,.own 0,.own 0,.own 0] [] [0] (v:=.tuple #[vI (kL (bd (0 - a))),.agg #[vI 0,vI 0,vI 0,vI 0],.bool false]) (H':=(ap [] [T])) ?_
              refine ⟨T,rfl,?_⟩
              exact ⟨hM.weak (by omega),rfl⟩
             ·refine ae 6 [] λ _=>RN.em (op=17) 41 (λ h15=>?_) λ h15=>?_
              ·subst h15
               refine ae 2 [] λ _=>RN.draw [7] [1,2]<|ag [1,2] [0,2,5,3] [.own 1]<|au [1,2] 1 (λ X_=>(KB _))<|au [1,2] 4 (λ X_=>(un2 a _))<|ag [1,2] [6] []<|RD.one 7 (RDO.ev [1,2] [.own 0,.own 0,.own 0,.own 0] λ _=>?_)
               refine ag [1,2] [8] []<|RD.fin<|ae 1 [] λ _=>RN.ret [.own 0,.own 0,.own 0,.own 0] [] [0] (v:=.tuple #[vI (gq (decide (a=0))),.agg #[vI 0,vI 0,vI 0,vI 0],.bool false]) (H':=(ap [] [T])) ?_
               refine ⟨T,rfl,?_⟩
               exact ⟨hM.weak (by omega),rfl⟩
              ·refine ae 5 [] λ _=>?_
               have h7:op=3 \/ op=4 \/ op=5 \/ op=18 \/ op=19 \/ op=20 \/ op=21:=by omega
               rcases h7 with rfl | rfl | rfl | rfl | rfl | rfl | rfl
               ·refine RN.draw [5,10] []<|ag [] [0,2,3,4] (ow 2 16++[.own 1,.own 1,.own 1])<|au [] 1 (λ X_=>(ME _))<|RD.one 5 (RDO.ct [] [] [0] (Oy mb M (k+1) T S n a b _ hM hS) ?_)
                rintro _ T16 ⟨hM17,rfl⟩
                refine ag [] [6,7,8,9] []<|RD.one 10 (RDO.ev [] [.own 0,.own 0,.own 0,.own 0] λ _=>?_)
                refine ag [] [11] []<|RD.fin<|ae 1 [] λ _=>RN.ret [.own 0,.own 0,.own 0,.own 0] [] [0] (v:=.tuple #[vI 0,.agg #[vI 0,vI 0,vI 0,vI 0],.bool false]) (H':=(ap [] [T16])) ?_
                refine ⟨T16,rfl,?_⟩
                exact ⟨hM17.weak (by omega),rfl⟩
               ·refine RN.draw [5,10] []<|ag [] [0,2,3,4] (ow 2 16++[.own 1,.own 1,.own 1])<|au [] 1 (λ X_=>(MF _))<|RD.one 5 (RDO.ct [] [] [0] (Oz mb M (k+2) T S n a b _ hM hS) ?_)
                rintro _ T18 ⟨hM19,rfl⟩
                refine ag [] [6,7,8,9] []<|RD.one 10 (RDO.ev [] [.own 0,.own 0,.own 0,.own 0] λ _=>?_)
                refine ag [] [11] []<|RD.fin<|ae 1 [] λ _=>RN.ret [.own 0,.own 0,.own 0,.own 0] [] [0] (v:=.tuple #[vI (if af S a >= 0 then M.get (bd (af S a+n)) else 0),.agg #[vI 0,vI 0,vI 0,vI 0],.bool false]) (H':=(ap [] [T18])) ?_
                refine ⟨T18,rfl,?_⟩
                exact ⟨hM19.weak (by omega),rfl⟩
               ·refine RN.draw [5,10] []<|ag [] [0,2,3,4] (ow 2 16++[.own 1,.own 1,.own 1])<|au [] 1 (λ X_=>(MG _))<|RD.one 5 (RDO.ct [] [] [0] (OA mb M (k+1) T S n a b _ hM hS) ?_)
                rintro _ T20 ⟨hM21,rfl⟩
                refine ag [] [6,7,8,9] []<|RD.one 10 (RDO.ev [] [.own 0,.own 0,.own 0,.own 0] λ _=>?_)
                refine ag [] [11] []<|RD.fin<|ae 1 [] λ _=>RN.ret [.own 0,.own 0,.own 0,.own 0] [] [0] (v:=.tuple #[vI 0,.agg #[vI 0,vI 0,vI 0,vI 0],.bool false]) (H':=(ap [] [T20])) ?_
                refine ⟨T20,rfl,?_⟩
                exact ⟨hM21.weak (by omega),rfl⟩
               ·refine RN.draw [5,10] []<|ag [] [0,2,3,4] (ow 2 16++[.own 1,.own 1,.own 1])<|au [] 1 (λ X_=>(KC _))<|RD.one 5 (RDO.ct [] [] [0] (MH mb M (k+1) T S n a b _ hM hS) ?_)
                rintro _ T22 ⟨hM23,rfl⟩
                refine ag [] [6,7,8,9] []<|RD.one 10 (RDO.ev [] [.own 0,.own 0,.own 0,.own 0] λ _=>?_)
                refine ag [] [11] []<|RD.fin<|ae 1 [] λ _=>RN.ret [.own 0,.own 0,.own 0,.own 0] [] [0] (v:=.tuple #[vI 0,.agg #[vI 0,vI 0,vI 0,vI 0],.bool false]) (H':=(ap [] [T22])) ?_
                refine ⟨T22,rfl,?_⟩
                exact ⟨hM23.weak (by omega),rfl⟩
               ·refine RN.draw [5,10] []<|ag [] [0,2,3,4] (ow 2 16++[.own 1,.own 1,.own 1])<|au [] 1 (λ X_=>(KD _))<|RD.one 5 (RDO.ct [] [] [0] (MI mb M (k+1) T S n a b _ hM hS) ?_)
                rintro _ T24 ⟨hM25,rfl⟩
                refine ag [] [6,7,8,9] []<|RD.one 10 (RDO.ev [] [.own 0,.own 0,.own 0,.own 0] λ _=>?_)
                refine ag [] [11] []<|RD.fin<|ae 1 [] λ _=>RN.ret [.own 0,.own 0,.own 0,.own 0] [] [0] (v:=.tuple #[vI 0,.agg #[vI 0,vI 0,vI 0,vI 0],.bool false]) (H':=(ap [] [T24])) ?_
                refine ⟨T24,rfl,?_⟩
                exact ⟨hM25.weak (by omega),rfl⟩
               ·refine RN.draw [5,10] []<|ag [] [0,2,3,4] (ow 2 16++[.own 1,.own 1,.own 1])<|au [] 1 (λ X_=>(KE _))<|RD.one 5 (RDO.ct [] [] [0] (MJ mb M k T S n a b _ hM hS) ?_)
                rintro _ T26 ⟨hM27,rfl⟩
                refine ag [] [6,7,8,9] []<|RD.one 10 (RDO.ev [] [.own 0,.own 0,.own 0,.own 0] λ _=>?_)
                refine ag [] [11] []<|RD.fin<|ae 1 [] λ _=>RN.ret [.own 0,.own 0,.own 0,.own 0] [] [0] (v:=.tuple #[vI 0,.agg #[vI ((cL a b M).e.t),vI ((cL a b M).e.i),vI ((cL a b M).e.k),vI ((cL a b M).e.v)],.bool ((cL a b M).em)]) (H':=(ap [] [T26])) ?_
                refine ⟨T26,rfl,?_⟩
                exact ⟨hM27.weak (by omega),rfl⟩
               ·refine RN.draw [5,10] []<|ag [] [0,2,3,4] (ow 2 16++[.own 1,.own 1,.own 1])<|au [] 1 (λ X_=>(KF _))<|RD.one 5 (RDO.ct [] [] [0] (MK mb M (k+2) T S n a b _ hM hS) ?_)
                rintro _ T28 ⟨hM29,rfl⟩
                refine ag [] [6,7,8,9] []<|RD.one 10 (RDO.ev [] [.own 0,.own 0,.own 0,.own 0] λ _=>?_)
                refine ag [] [11] []<|RD.fin<|ae 1 [] λ _=>RN.ret [.own 0,.own 0,.own 0,.own 0] [] [0] (v:=.tuple #[vI 0,.agg #[vI 0,vI 0,vI 0,vI 0],.bool false]) (H':=(ap [] [T28])) ?_
                refine ⟨T28,rfl,?_⟩
                exact ⟨hM29.weak (by omega),rfl⟩
end Go.Proofs.YtobflkidpfkcaaaGreatDoor
