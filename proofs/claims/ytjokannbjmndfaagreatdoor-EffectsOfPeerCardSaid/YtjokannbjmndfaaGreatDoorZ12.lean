import Derived.Test.YtjokannbjmndfaaGreatDoorZ11
import Derived.Test.YtjokannbjmndfaaGreatDoorZ10
set_option linter.all false
set_option maxHeartbeats 4000000
set_option maxRecDepth 100000
namespace Go.Proofs.YtjokannbjmndfaaGreatDoor
open IntKind
open Go.RowKit
variable {F T:HL} {M:MemS} {i k mb q:Nat} {xs:List Int} (a n b:Int)
def OQ(a b:Int):Int:=u64.wrap ((BitVec.ofInt 64 a ^^^ BitVec.ofInt 64 b).toNat:Int)
def orU(a b:Int):Int:=u64.wrap ((BitVec.ofInt 64 a ||| BitVec.ofInt 64 b).toNat:Int)
def xS(a b:Int):Int:=OQ (u64.wrap (OQ a b*11400714819323198485)) ((u64.wrap (OQ a b*11400714819323198485)).fdiv 4294967296)
def um(b:ByteArray)(i:Nat):Nat->Int
 |0=>0
 |k+1=>orU (um b i k) (u64.wrap (u64.wrap (GS b (8*i+k))*2 ^ min (8*(k:Int)).toNat 64))
def wk(b:ByteArray)(i:Nat):Nat:=min 8 (b.size-8*i)
def wn(b:ByteArray):Nat:=(b.size+7)/8
def gZ(b:ByteArray):List Int:=(List.range (wn b)).map λ i=>um b i (wk b i)
theorem Be(b:ByteArray):(gZ b).length=wn b:=by simp[gZ]
theorem rI{b:ByteArray}(h:8*i<b.size):(gZ b)[i]?=some (um b i (wk b i)):=by
 have:i<wn b:=by unfold wn;omega
 simp[gZ,this]
def jF(b:ByteArray):Nat->Int
 |0=>0
 |m+1=>xS (jF b m) ((gZ b).getD m 0)
def rJ(b:ByteArray)(n:Int):Int:=xS (xS (jF b (gZ b).length) (u64.wrap (b.size:Int))) (u64.wrap n)
def Hz(s:Int)(xs:List Int):Nat->Int
 |0=>s
 |k+1=>xS (Hz s xs k) (u64.wrap (xs.getD k 0))
def OS(b:ByteArray)(xs:List Int):Int:=xS (Hz (rJ b xs.length) xs xs.length) 0
abbrev Q6(x:Int):Array Value:=#[.int .u64 x]
theorem HA{x:Int}(h:xs[i]?=some x):xs.getD i 0=x:=by rw[aaG,h];rfl
theorem oa:af0 304 #[.int .u64 a,.int .u64 b] F (.int .u64 (xS a b)):=by
 refine QG Tryz.func304<|ae 23 [] λ _=>QJ _ _ ⟨rfl,rfl⟩
theorem EE{b:ByteArray} (lp:Nat)(X:HL){J:Nat->HL->Prop}(Jx:HL->Prop){T0:HL}(hb:b.size<=1000000)(hq:(q,.lit [.string b] 9 (0,0))∈F)(hY:∀i x H Y,(gZ b)[i]?=some x->J i H->YL Tryz.prog lp (Q6 x) H (Y++(X++F)) (λ b H'=>(b=true/\J (i+1) H')\/(b=false/\Jx H')))(W6:J 0 T0):af1 311 #[.func (.yield lp) #[] #[],vP q 0] (ap [] [T0]) (X++F) (λ _ H'=>J (gZ b).length H'\/Jx H'):=by
 refine QF Tryz.func311 (mc (aaz _ hq) mn)<|OG 6<|aan (σ:=Nat×HL) (λ ⟨i,T_⟩=>⟨[(0,.func (.yield lp) #[] #[]),(1,vP q 0),(3,vI (8*(i:Int)))],[],[T_],i<=wn b/\J i T_,wn b-i⟩) (0,T0) [] [0] (⟨aaJ _,W6⟩) ?_;rintro⟨i,T_⟩ ⟨XB,U1⟩ Ue;refine Sr 9 [.ro 0]<|aal (8*(i:Int)<((b).size:Int)) 9 (λ h3=>?_) λ h3=>?_
 ·refine OG 17<|aan (σ:=Nat) (λ k=>⟨[(0,.func (.yield lp) #[] #[]),(1,vP q 0),(3,vI (8*(i:Int))),(4,.int .u64 (um b i k)),(5,vI (k:Int))],[],[T_],k<=8/\8*i+k<=b.size,8-k⟩) 0 [] [0] (⟨by omega,by omega⟩) ?_;rintro k ⟨XT,anW⟩ Zk;refine OG 6<|aal ((k:Int)<8) 14 (λ h6=>?_) λ h6=>?_
  ·refine ah 9 [.nw,.ro 0] [aX ((8*(i:Int))+(k:Int))] λ _=>aal ((8*(i:Int))+(k:Int)<((b).size:Int)) 21 (λ h7=>?_) λ h7=>?_
   ·refine ah 26 [.ro 0,.nw,.ix (8*i+k),.nw,.dv,.gen,.nw] [aX ((k:Int)+1),0<=8*(k:Int),aX (8*(k:Int)),(8*(i:Int))+(k:Int)=(((8*i+k):Nat):Int)/\(8*i+k)<(b).size,aX ((8*(i:Int))+(k:Int))] λ _=>Zk (k+1) [] [0] ?_
    try dsimp only
    exact⟨⟨by omega,by omega⟩,by omega⟩
   ·obtain rfl:k=wk b i:=by unfold wk;omega
    refine OG 10<|aar 0 (hY i (um b i (wk b i)) _ _ (rI (by omega)) U1) ?_;rintro b_ T8 (⟨rfl,Y6⟩|⟨rfl,Y6⟩)
    ·refine ah 12 [.gen,.nw] [aX ((8*(i:Int))+8)] λ _=>aw 3 (congrArg (λ v_=>(vI v_:Value)) (show (8*(i:Int)+8)=8*((i+1:Nat):Int) by omega))<|Ue (i+1,T8) [] [0] ?_
     try dsimp only
     exact⟨⟨by unfold wn at *;omega,Y6⟩,by unfold wn at *;omega⟩
    ·refine OG 4<|QI [] [] [0] (.tuple #[]) (ap [] [T8]) ?_;rw[bm];exact .inr Y6
  ·obtain rfl:k=wk b i:=by unfold wk;omega
   refine OG 19<|aar 0 (hY i (um b i (wk b i)) _ _ (rI (by omega)) U1) ?_;rintro b_ VI (⟨rfl,acx⟩|⟨rfl,acx⟩)
   ·refine ah 12 [.gen,.nw] [aX ((8*(i:Int))+8)] λ _=>aw 3 (congrArg (λ v_=>(vI v_:Value)) (show (8*(i:Int)+8)=8*((i+1:Nat):Int) by omega))<|Ue (i+1,VI) [] [0] ?_
    try dsimp only
    exact⟨⟨by unfold wn at *;omega,acx⟩,by unfold wn at *;omega⟩
   ·refine OG 4<|QI [] [] [0] (.tuple #[]) (ap [] [VI]) ?_;rw[bm];exact .inr acx
 ·obtain rfl:i=wn b:=by unfold wn at *;omega
  refine OG 5<|QI [] [] [0] (.tuple #[]) (ap [] [T_]) ?_;rw[bm];exact .inl (by rw[Be];exact U1)
theorem HB{b:ByteArray}(hb:b.size<=1000000)(hq:(q,.lit [.string b] 9 (0,0))∈F):It Tryz.prog 311 #[vP q 0] F Q6 (gZ b):=by
 intro X l J Jx H0 hY h0;have key:=EE l X Jx hb hq hY h0;rw[bm] at key;exact key
theorem EF(b:ByteArray):af1 308 #[.string b] (ap [] []) F (λ u H'=>∃n:Nat,H'=ap [((n+0),.lit [.string b] 9 (0,0))] []/\u=.func (.func 311) #[] #[vP (n+0) 0]):=by
 refine QG Tryz.func308<|ae 12 [] λ n1=>QI [] [0] [] (.func (.func 311) #[] #[vP (n1+0) 0]) (ap [((n1+0),.lit [.string b] 9 (0,0))] []) ⟨_,rfl,rfl⟩
theorem Bf(b:ByteArray)(n:Int)(hb:b.size<=1000000):af0 303 #[.string b,vI n] F (.int .u64 (rJ b n)):=by
 refine Sp.runM Tryz.func303 rfl mn (A:=[]) (Ts:=[]) rfl λ w0=>ae 14 [] λ n1=>Ss (EF b) ?_;rintro _ m2 rfl;refine OG 3<|RN.range (σ:=Nat) (τ:=Nat×Int) (encs:=λ (x_:Int)=>#[.int .u64 x_]) (xs:=(gZ b)) (enters_of Tryz.func311 (by kernel_rfl) rfl) (λ m_=>([((n1+0),.lit [.int .u64 (jF b m_)] 286 (0,0))],[])) (λ i_ m_=>m_=i_) (λ c_ m_=>False) (λ ⟨m_,y_⟩=>⟨[(0,.string b),(1,vI n),(5,vP (n1+0) 0),(6,.int .u64 y_)],[((n1+0),.lit [.int .u64 (jF b m_)] 286 (0,0))],[],True,0⟩) (λ i_ x_ ⟨m_,y_⟩=>m_=i_/\y_=x_) 0 rfl [1] [] (HB (b:=b) (q:=m2+0) hb (ay 0)) ?_ ?_ ?_ ?_
 ·rintro l_ i_ x_ m_ Y3 w4 hx5 rfl Wx;refine ae 3 [] λ _=>Wx (m_,x_) [0] [] ?_
  try dsimp only
  exact⟨rfl,rfl⟩
 ·rintro l_ i_ x_ ⟨m_,y_⟩ Y7 w8 hx9 ⟨rfl,ey_⟩;refine Sr 4 [.o 0]<|aah (oa (jF b m_) y_)<|ae 3 [.o 0] λ _=>?_;have e_:jF b (m_+1)=xS (jF b m_) y_:=by rw[jF,ey_,HA hx9]
  refine RN.bv 0 (congrArg (λ v_=>(.lit [.int .u64 v_] 286 (0,0):Blk)) e_.symm)<|RN.rn (m_+1) [0] [] ?_
  try dsimp only
  first|done|rfl
 ·rintro d10 m_ rfl;refine Sr 8 [.o 1]<|aah (oa (jF b (gZ b).length) (u64.wrap ((b).size:Int)))<|OG 2<|aah (oa (xS (jF b (gZ b).length) (u64.wrap ((b).size:Int))) (u64.wrap n))<|ae 3 [] λ _=>RN.retM [d10] [0] [] [] [] ⟨rfl,rfl⟩
 ·exact λ _ _ _ h=>h.elim
theorem HC(b:ByteArray){c:Nat}(hb:b.size<=1000000)(hl:xs.length<=c)(Uy:xs.length<=1000000)(hq:(q,.rows 1 c (aY xs) 3 (0,0))∈F):af0 300 #[.string b,vS q 0 xs.length c] F (.int .u64 (OS b xs)):=by
 refine QH Tryz.func300 hq<|OG 10<|aah (Bf b (xs.length:Int) (by assumption))<|OG 12<|aan (σ:=Nat) (λ k=>⟨[(5,.int .u64 (Hz (rJ b xs.length) xs k)),(12,vS q 0 xs.length c),(13,vI (xs.length:Int)),(14,vI (k:Int))],[],[],k<=xs.length,xs.length-k⟩) 0 [] [] (aaJ _) ?_;rintro k hI1 Ue;refine OG 6<|aal ((k:Int)<(xs.length:Int)) 15 (λ h3=>?_) λ h3=>?_
 ·refine ah 16 [.ix k,.rorow 0 k 0] [(0+k*1)=k*1+0/\k<c,(k:Int)=((k:Nat):Int)/\k<xs.length] λ _=>aah (oa (Hz (rJ b xs.length) xs k) (u64.wrap (xs.getD k 0)))<|ah 8 [.nw] [aX ((k:Int)+1)] λ _=>Ue (k+1) [] [] ?_
  try dsimp only
  exact⟨by omega,by omega⟩
 ·obtain rfl:k=xs.length:=by omega
  refine OG 9<|aah (oa (Hz (rJ b xs.length) xs xs.length) 0)<|ae 3 [] λ _=>QJ _ _ ⟨rfl,rfl⟩
structure VR where (M:MemS) (v:Int) (e:Eff) (em:Bool)
def oc:List (Int×Int×Int):=[(0,0,0),(0,1,0),(0,1,16),(1,0,16),(1,1,8),(2,0,8),(0,1,0),(0,1,0),(0,1,0),(2,1,0),(2,1,0),(2,1,0),(2,1,0),(1,1,0),(2,1,0),(2,1,0),(2,1,0),(1,1,0),(0,0,0),(1,0,0),(2,0,0),(0,0,0)]
abbrev eP(op:Int):Int:=(oc.getD op.toNat (0,0,0)).1
abbrev eQ(op:Int):Int:=(oc.getD op.toNat (0,0,0)).2.1
abbrev eN(op:Int):Int:=(oc.getD op.toNat (0,0,0)).2.2
def m9:Nat->Nat->Value:=λ i k=>match k with|0=>vI (oc.getD i (0,0,0)).1|1=>vI (oc.getD i (0,0,0)).2.1|_=>vI (oc.getD i (0,0,0)).2.2
def lB(n:Int):Int:=bF n (-2147483647) 2147483647
def gM(b:Bool):Int:=if b=true then 1 else 0
def eY(op n sp:Int):Bool:=if op<1 then false else if op>21 then false else if sp>16 then false else if sp<eP op then false else if aV (aV (sp-eP op)+eQ op)>16 then false else if eN op=0 then true else if n>=0 then decide (n<eN op) else false
def od(f v:Int):Int:=if f=0 then bF v (-1048576) 1048576 else if f=1 then bF v (-1048576) 1048576 else if f=2 then bF v (-16384) 16384 else if f=3 then bF v (-16384) 16384 else v
abbrev SV:ByteArray:=⟨#[101,102,102,101,99,116]⟩
def cy(k v:Int)(M:MemS):VR:=if M.get 11>=40 then ⟨M,0,bx,false⟩ else ⟨(M.set 12 (aV ((OS SV [M.get 12,M.get 0,k,v]).fdiv 2))).set 11 (aV (M.get 11+1)),0,⟨M.get 0,M.get 11,k,v⟩,true⟩
def dz(S:Setup)(op n a b:Int)(M:MemS):VR :=
 if op=1 then ⟨M,n,bx,false⟩ else if op=2 then ⟨M,M.get (aV (32+n)),bx,false⟩ else if op=6 then ⟨M,M.get 9,bx,false⟩ else if op=7 then ⟨M,M.get 10,bx,false⟩ else if op=8 then ⟨M,M.get 0,bx,false⟩
 else if op=9 then ⟨M,lB (aV (a+b)),bx,false⟩ else if op=10 then ⟨M,lB (aV (a-b)),bx,false⟩ else if op=11 then ⟨M,lB (aV (a*b)),bx,false⟩ else if op=12 then ⟨M,if b=0 then 0 else lB (aV (a.tdiv b)),bx,false⟩
 else if op=14 then ⟨M,gM (decide (a<b)),bx,false⟩ else if op=15 then ⟨M,gM (decide (a<=b)),bx,false⟩ else if op=16 then ⟨M,gM (decide (a=b)),bx,false⟩
 else if op=13 then ⟨M,lB (aV (0-a)),bx,false⟩ else if op=17 then ⟨M,gM (decide (a=0)),bx,false⟩
 else if op=3 then ⟨M.set (aV (32+n)) a,0,bx,false⟩ else if op=4 then ⟨M,if ag S a>=0 then M.get (aV (ag S a+n)) else 0,bx,false⟩ else if op=5 then ⟨if ag S a>=0 then M.set (aV (ag S a+n)) (od n b) else M,0,bx,false⟩
 else if op=18 then ⟨M.set 6 n,0,bx,false⟩ else if op=19 then ⟨if a=0 then M.set 6 n else M,0,bx,false⟩ else if op=20 then ⟨(cy a b M).M,0,(cy a b M).e,(cy a b M).em⟩ else ⟨M,0,bx,false⟩
def pj(op sp:Int)(M:MemS):Int:=if eP op=2 then M.get (aV (aV (16+sp)-eP op)) else if eP op=1 then M.get (aV (aV (16+sp)-eP op)) else 0
def pk(op sp:Int)(M:MemS):Int:=if eP op=2 then M.get (aV (aV (aV (16+sp)-eP op)+1)) else 0
def mB(op sp pc fuel:Int)(M:MemS):MemS:=if eP op=eQ op then (M.set 8 (aV (fuel-1))).set 6 (aV (pc+1)) else ((M.set 8 (aV (fuel-1))).set 6 (aV (pc+1))).set 7 (aV (aV (sp-eP op)+eQ op))
def iq(S:Setup)(op n sp pc fuel:Int)(M:MemS):VR:=dz S op n (pj op sp M) (pk op sp M) (mB op sp pc fuel M)
def jN(op sp:Int)(r:VR):VR:=if eQ op>0 then ⟨r.M.set (aV (aV (16+sp)-eP op)) r.v,r.v,r.e,r.em⟩ else r
abbrev fp(code:List Ins)(M:MemS):Ins:=code.getD (M.get 6).toNat dIns
def gc(code:List Ins)(n:Nat)(M:MemS):Prop:=¬ M.get 8<1/\¬ M.get 6<0/\¬ M.get 6>=(n:Int)/\eY (fp code M).op (fp code M).n (M.get 7)=true
instance (code:List Ins) (n:Nat) (M:MemS):Decidable (gc code n M):=inferInstanceAs (Decidable (_/\_))
def aj(S:Setup)(code:List Ins)(n:Nat)(M:MemS):VR:=if gc code n M then jN (fp code M).op (M.get 7) (iq S (fp code M).op (fp code M).n (M.get 7) (M.get 6) (M.get 8) M) else ⟨M,0,bx,false⟩
def cM(code:List Ins)(n:Nat)(M:MemS):Bool:=if gc code n M then decide ((fp code M).op=21) else true
def aK(e fuel self other:Int)(M:MemS):MemS:=if e<0 then M else ((((M.set 6 e).set 7 0).set 8 fuel).set 9 self).set 10 other
def ld:Enc Ins:=⟨2,λ p k=>match k with|0=>vI p.op|1=>vI p.n|_=>default,dIns⟩
noncomputable def N4:TypeInfo:=match Tryz.prog.info? 230 with | some i=>i | none=>⟨.bool,"",0,0,false,0,0,none,false,#[]⟩
noncomputable def N5:Value:=match N4.zero with|some z=>z|none=>.bool false
theorem HD:EncOk ld Tryz.prog 230 N4 N5 where
 info:=by kernel_rfl
 zero:=by kernel_rfl
 size:=by kernel_rfl
 zsize:=by kernel_rfl
 zcell:=λ k hk=>by
  have h:∀k<2,N5.cells[k]?=some (ld.cell ld.dflt k):=by intro k hk;(iterate 2 (rcases k with _|k;· kernel_rfl));omega
  exact h k hk
 one:=λ x k=>by unfold ld;dsimp only;split <;> rfl
 bytes:=aaH (by kernel_rfl)
abbrev Q7(l:List Ins):Nat->Nat->Value:=aD ld l
inductive CodeIn(F:HL)(code:List Ins):Option Addr->Nat->Prop
 |nil (A:Option Addr):CodeIn F code A 0
 |mk (b R n:Nat) (h:(b,.rows 2 R (Q7 code) 230 (0,0))∈F) (hn:n<=R) (hn2:n<=1000000):CodeIn F code (some ⟨b,0,none⟩) n
theorem CodeIn.up{X:HL}{code:List Ins}{A:Option Addr}{n:Nat}(h:CodeIn F code A n):CodeIn (X++F) code A n:=by
 cases h with
 |nil=>exact .nil _
 |mk b R n h h1 h2=>exact .mk b R n (aaz _ h) h1 h2
abbrev cF(F:HL):Prop:=(1,.rows 3 22 m9 329 (0,0))∈F
theorem og:af0 277 #[vI n] F (vI (lB n)):=by
 refine QG Tryz.func277<|OG 8<|aah (dG n (-2147483647) 2147483647)<|ae 3 [] λ _=>QJ _ _ ⟨rfl,rfl⟩
theorem lY(b:Bool):af0 282 #[.bool b] F (vI (gM b)):=by
 refine QG Tryz.func282<|OG 11<|il (b) 3 (λ h1=>?_) λ h1=>?_
 ·refine OG 6<|QJ (vI 1) [] ⟨?_,rfl⟩
  first|(simp only[gM,if_pos h1];try rfl;done)|rfl
 ·refine OG 8<|QJ (vI 0) [] ⟨?_,rfl⟩
  first|(simp only[gM,if_neg h1];try rfl;done)|rfl
theorem EG(f:Int)(v:Int):af0 290 #[vI f,vI v] F (vI (od f v)):=by
 refine QG Tryz.func290<|OG 19<|aal (f=0) 6 (λ h1=>?_) λ h1=>?_
 ·refine OG 7<|aah (dG v (-1048576) 1048576)<|OG 3<|QJ (vI (bF v (-1048576) 1048576)) [] ⟨?_,rfl⟩
  first|(simp only[od,if_pos h1];try rfl;done)|rfl
 ·refine OG 6<|aal (f=1) 6 (λ h2=>?_) λ h2=>?_
  ·refine OG 4<|aah (dG v (-1048576) 1048576)<|OG 3<|QJ (vI (bF v (-1048576) 1048576)) [] ⟨?_,rfl⟩
   first|(simp only[od,if_neg h1,if_pos h2];try rfl;done)|rfl
  ·refine OG 8<|aal (f=2) 11 (λ h3=>?_) λ h3=>?_
   ·refine OG 7<|aah (dG v (-16384) 16384)<|OG 3<|QJ (vI (bF v (-16384) 16384)) [] ⟨?_,rfl⟩
    first|(simp only[od,if_neg h1,if_neg h2,if_pos h3];try rfl;done)|rfl
   ·refine OG 6<|aal (f=3) 11 (λ h4=>?_) λ h4=>?_
    ·refine OG 4<|aah (dG v (-16384) 16384)<|OG 3<|QJ (vI (bF v (-16384) 16384)) [] ⟨?_,rfl⟩
     first|(simp only[od,if_neg h1,if_neg h2,if_neg h3,if_pos h4];try rfl;done)|rfl
    ·refine OG 10<|QJ (vI v) [] ⟨?_,rfl⟩
     first|(simp only[od,if_neg h1,if_neg h2,if_neg h3,if_neg h4];try rfl;done)|rfl
theorem LT(op n sp:Int)(hE:cF F):af0 231 #[.agg #[vI op,vI n],vI sp] F (.bool (eY op n sp)):=by
 refine QH Tryz.func231 hE<|ae 13 [.o 0] λ n1=>aal (op<1) 9 (λ h2=>?_) λ h2=>?_
 ·refine OG 16<|QJ (.bool false) [] ⟨?_,rfl⟩
  first|(simp only[eY,if_pos h2];try rfl;done)|rfl
 ·refine Sr 5 [.o 0]<|aal (op>21) 14 (λ h3=>?_) λ h3=>?_
  ·refine OG 11<|QJ (.bool false) [] ⟨?_,rfl⟩
   first|(simp only[eY,if_neg h2,if_pos h3];try rfl;done)|rfl
  ·refine OG 5<|aal (sp>16) 17 (λ h4=>?_) λ h4=>?_
   ·refine OG 6<|QJ (.bool false) [] ⟨?_,rfl⟩
    first|(simp only[eY,if_neg h2,if_neg h3,if_pos h4];try rfl;done)|rfl
   ·refine ah 21 [.o 0,.ix ((op).toNat),.rorow 0 ((op).toNat) 0,.rorow 0 ((op).toNat) 1,.rorow 0 ((op).toNat) 2,.o 0,.o 0,.o 0,.o 0] [((0+((op).toNat)*3)+2)=((op).toNat)*3+2/\((op).toNat)<22,((0+((op).toNat)*3)+1)=((op).toNat)*3+1/\((op).toNat)<22,(0+((op).toNat)*3)=((op).toNat)*3+0/\((op).toNat)<22,op=(((op).toNat:Nat):Int)/\(op).toNat<22] λ n5=>aal (sp<eP op) 26 (λ h6=>?_) λ h6=>?_
    ·refine OG 17<|QJ (.bool false) [] ⟨?_,rfl⟩
     first|(simp only[eY,if_neg h2,if_neg h3,if_neg h4,if_pos h6];try rfl;done)|rfl
    ·refine Sr 11 (aab 2)<|aal (i64.wrap ((i64.wrap (sp-(eP op)))+(eQ op))>16) 35 (λ h7=>?_) λ h7=>?_
     ·refine OG 6<|QJ (.bool false) [] ⟨?_,rfl⟩
      first|(simp only[eY,if_neg h2,if_neg h3,if_neg h4,if_neg h6,if_pos h7];try rfl;done)|rfl
     ·refine Sr 9 [.o 0]<|aal (eN op=0) 39 (λ h8=>?_) λ h8=>?_
      ·refine OG 14<|QJ (.bool true) [] ⟨?_,rfl⟩
       first|(simp only[eY,if_neg h2,if_neg h3,if_neg h4,if_neg h6,if_neg h7,if_pos h8];try rfl;done)|rfl
      ·refine Sr 4 [.o 1]<|aal (n>=0) 43 (λ h9=>?_) λ h9=>?_
       ·refine Sr 10 [.o 1,.o 0]<|QJ (.bool (decide (n<eN op))) [] ⟨?_,rfl⟩
        first|(simp only[eY,if_neg h2,if_neg h3,if_neg h4,if_neg h6,if_neg h7,if_neg h8,if_pos h9];try rfl;done)|rfl
       ·refine OG 10<|QJ (.bool false) [] ⟨?_,rfl⟩
        first|(simp only[eY,if_neg h2,if_neg h3,if_neg h4,if_neg h6,if_neg h7,if_neg h8,if_neg h9];try rfl;done)|rfl
theorem ld1(hM:MemH mb M k T)(hs:∀x∈T,x∈F):af0 271 #[.iface 95 (vP mb 0),vI n] F (vI (n)):=by
 refine QG Tryz.func271<|ae 11 [] λ _=>QJ _ _ ⟨rfl,rfl⟩
theorem ld2(hM:MemH mb M k T)(hs:∀x∈T,x∈F):af0 272 #[.iface 95 (vP mb 0),vI n] F (vI (M.get (aV (32+n)))):=by
 refine QG Tryz.func272<|OG 10<|aah (aA (i64.wrap (32+n)) hM λ x hx=>aC (hs x hx))<|ae 3 [] λ _=>QJ _ _ ⟨rfl,rfl⟩
theorem ld3(hM:MemH mb M k T)(hs:∀x∈T,x∈F):af0 273 #[.iface 95 (vP mb 0),vI n] F (vI (M.get 9)):=by
 refine QG Tryz.func273<|OG 8<|aah (aA 9 hM λ x hx=>aC (hs x hx))<|ae 3 [] λ _=>QJ _ _ ⟨rfl,rfl⟩
theorem ld4(hM:MemH mb M k T)(hs:∀x∈T,x∈F):af0 274 #[.iface 95 (vP mb 0),vI n] F (vI (M.get 10)):=by
 refine QG Tryz.func274<|OG 8<|aah (aA 10 hM λ x hx=>aC (hs x hx))<|ae 3 [] λ _=>QJ _ _ ⟨rfl,rfl⟩
theorem ld5(hM:MemH mb M k T)(hs:∀x∈T,x∈F):af0 275 #[.iface 95 (vP mb 0),vI n] F (vI (M.get 0)):=by
 refine QG Tryz.func275<|OG 8<|aah (aA 0 hM λ x hx=>aC (hs x hx))<|ae 3 [] λ _=>QJ _ _ ⟨rfl,rfl⟩
theorem SW:af0 276 #[vI a,vI b] F (vI (lB (aV (a+b)))):=by
 refine QG Tryz.func276<|OG 10<|aah (og (i64.wrap (a+b)))<|ae 3 [] λ _=>QJ _ _ ⟨rfl,rfl⟩
theorem SX:af0 278 #[vI a,vI b] F (vI (lB (aV (a-b)))):=by
 refine QG Tryz.func278<|OG 10<|aah (og (i64.wrap (a-b)))<|ae 3 [] λ _=>QJ _ _ ⟨rfl,rfl⟩
theorem SY:af0 279 #[vI a,vI b] F (vI (lB (aV (a*b)))):=by
 refine QG Tryz.func279<|OG 10<|aah (og (i64.wrap (a*b)))<|ae 3 [] λ _=>QJ _ _ ⟨rfl,rfl⟩
theorem SZ:af0 280 #[vI a,vI b] F (vI (if b=0 then 0 else lB (aV (a.tdiv b)))):=by
 refine QG Tryz.func280<|OG 12<|aal (b=0) 6 (λ h1=>?_) λ h1=>?_
 ·refine OG 6<|QJ (vI 0) [] ⟨by simp[*],rfl⟩
 ·refine ah 8 [.dv] [b≠0] λ _=>aah (og (i64.wrap (a.tdiv b)))<|OG 3<|QJ (vI (lB (i64.wrap (a.tdiv b)))) [] ⟨by simp[*],rfl⟩
theorem S0:af0 281 #[vI a,vI b] F (vI (gM (decide (a<b)))):=by
 refine QG Tryz.func281<|OG 10<|aah (lY (decide (a<b)))<|ae 3 [] λ _=>QJ _ _ ⟨rfl,rfl⟩
theorem S4:af0 283 #[vI a,vI b] F (vI (gM (decide (a<=b)))):=by
 refine QG Tryz.func283<|OG 10<|aah (lY (decide (a<=b)))<|ae 3 [] λ _=>QJ _ _ ⟨rfl,rfl⟩
theorem S5:af0 284 #[vI a,vI b] F (vI (gM (decide (a=b)))):=by
 refine QG Tryz.func284<|OG 10<|aah (lY (decide (a=b)))<|ae 3 [] λ _=>QJ _ _ ⟨rfl,rfl⟩
theorem un1:af0 285 #[vI a] F (vI (lB (aV (0-a)))):=by
 refine QG Tryz.func285<|OG 9<|aah (og (i64.wrap (0-a)))<|ae 3 [] λ _=>QJ _ _ ⟨rfl,rfl⟩
theorem un2:af0 286 #[vI a] F (vI (gM (decide (a=0)))):=by
 refine QG Tryz.func286<|OG 9<|aah (lY (decide (a=0)))<|ae 3 [] λ _=>QJ _ _ ⟨rfl,rfl⟩
theorem Q8:af0 256 #[vI 1] F (.func (.func 271) #[] #[]):=by
 refine QG Tryz.func256<|ae 19 (ow 0 11) λ n1=>QJ _ _ ⟨rfl,rfl⟩
theorem Q9:af0 256 #[vI 2] F (.func (.func 272) #[] #[]):=by
 refine QG Tryz.func256<|ae 19 (ow 0 11) λ n1=>QJ _ _ ⟨rfl,rfl⟩
theorem Ra:af0 256 #[vI 6] F (.func (.func 273) #[] #[]):=by
 refine QG Tryz.func256<|ae 19 (ow 0 11) λ n1=>QJ _ _ ⟨rfl,rfl⟩
theorem Rb:af0 256 #[vI 7] F (.func (.func 274) #[] #[]):=by
 refine QG Tryz.func256<|ae 19 (ow 0 11) λ n1=>QJ _ _ ⟨rfl,rfl⟩
theorem Rc:af0 256 #[vI 8] F (.func (.func 275) #[] #[]):=by
 refine QG Tryz.func256<|ae 19 (ow 0 11) λ n1=>QJ _ _ ⟨rfl,rfl⟩
theorem Re:af0 257 #[vI 9] F (.func (.func 276) #[] #[]):=by
 refine QG Tryz.func257<|ae 21 (ow 0 15) λ n1=>QJ _ _ ⟨rfl,rfl⟩
theorem OT:af0 257 #[vI 10] F (.func (.func 278) #[] #[]):=by
 refine QG Tryz.func257<|ae 21 (ow 0 15) λ n1=>QJ _ _ ⟨rfl,rfl⟩
theorem OU:af0 257 #[vI 11] F (.func (.func 279) #[] #[]):=by
 refine QG Tryz.func257<|ae 21 (ow 0 15) λ n1=>QJ _ _ ⟨rfl,rfl⟩
theorem OV:af0 257 #[vI 12] F (.func (.func 280) #[] #[]):=by
 refine QG Tryz.func257<|ae 21 (ow 0 15) λ n1=>QJ _ _ ⟨rfl,rfl⟩
theorem OW:af0 257 #[vI 14] F (.func (.func 281) #[] #[]):=by
 refine QG Tryz.func257<|ae 21 (ow 0 15) λ n1=>QJ _ _ ⟨rfl,rfl⟩
theorem OX:af0 257 #[vI 15] F (.func (.func 283) #[] #[]):=by
 refine QG Tryz.func257<|ae 21 (ow 0 15) λ n1=>QJ _ _ ⟨rfl,rfl⟩
theorem OY:af0 257 #[vI 16] F (.func (.func 284) #[] #[]):=by
 refine QG Tryz.func257<|ae 21 (ow 0 15) λ n1=>QJ _ _ ⟨rfl,rfl⟩
theorem OZ:af0 258 #[vI 13] F (.func (.func 285) #[] #[]):=by
 refine QG Tryz.func258<|ae 16 (ow 0 5) λ n1=>QJ _ _ ⟨rfl,rfl⟩
theorem O0:af0 258 #[vI 17] F (.func (.func 286) #[] #[]):=by
 refine QG Tryz.func258<|ae 16 (ow 0 5) λ n1=>QJ _ _ ⟨rfl,rfl⟩
theorem Rf:af0 259 #[vI 3] F (.func (.func 287) #[] #[]):=by
 refine QG Tryz.func259<|ae 21 (ow 0 15) λ n1=>QJ _ _ ⟨rfl,rfl⟩
theorem Rg:af0 259 #[vI 4] F (.func (.func 288) #[] #[]):=by
 refine QG Tryz.func259<|ae 21 (ow 0 15) λ n1=>QJ _ _ ⟨rfl,rfl⟩
theorem Rh:af0 259 #[vI 5] F (.func (.func 289) #[] #[]):=by
 refine QG Tryz.func259<|ae 21 (ow 0 15) λ n1=>QJ _ _ ⟨rfl,rfl⟩
theorem O2:af0 259 #[vI 18] F (.func (.func 291) #[] #[]):=by
 refine QG Tryz.func259<|ae 21 (ow 0 15) λ n1=>QJ _ _ ⟨rfl,rfl⟩
theorem O3:af0 259 #[vI 19] F (.func (.func 292) #[] #[]):=by
 refine QG Tryz.func259<|ae 21 (ow 0 15) λ n1=>QJ _ _ ⟨rfl,rfl⟩
theorem O4:af0 259 #[vI 20] F (.func (.func 293) #[] #[]):=by
 refine QG Tryz.func259<|ae 21 (ow 0 15) λ n1=>QJ _ _ ⟨rfl,rfl⟩
theorem O5:af0 259 #[vI 21] F (.func (.func 295) #[] #[]):=by
 refine QG Tryz.func259<|ae 21 (ow 0 15) λ n1=>QJ _ _ ⟨rfl,rfl⟩
end Go.Proofs.YtjokannbjmndfaaGreatDoor
