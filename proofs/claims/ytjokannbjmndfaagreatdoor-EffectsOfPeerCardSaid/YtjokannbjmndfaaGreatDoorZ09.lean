import Derived.Test.YtjokannbjmndfaaGreatDoorZ08
import Derived.Test.YtjokannbjmndfaaGreatDoorZ06
set_option linter.all false
set_option maxHeartbeats 4000000
set_option maxRecDepth 100000
namespace Go.Proofs.YtjokannbjmndfaaGreatDoor
open IntKind
open Go.RowKit
variable {A:Option Addr} {F Hl T:HL} {cap cb k k' mb:Nat} (m:Int) (a:V2) (r n i:Int) (b pos:V2)
def br(a b:V2):V2:=⟨aV (a.x+b.x),aV (a.y+b.y)⟩
def dm(a b:V2):V2:=⟨aV (a.x-b.x),aV (a.y-b.y)⟩
def Eu(a:V2):V2:=dm ⟨0,0⟩ a
def ao(a:V2)(f:Int):V2:=⟨f9 a.x f,f9 a.y f⟩
def eM(a:V2)(n d:Int):V2:=⟨av a.x n d,av a.y n d⟩
def Hj(n:Int):Int:=n.fdiv 1024
def cS(a b:V2):Int:=Hj (aV (aV (a.x*b.x)+aV (a.y*b.y)))
def vlen(a:V2):Int:=vV (aV (aV (a.x*a.x)+aV (a.y*a.y)))
def uj(a:V2):Prop:=a.x=0/\a.y=0
instance (a:V2):Decidable (uj a):=inferInstanceAs (Decidable (_/\_))
def kS(a:V2):V2:=if uj a then a else eM a 1024 (vlen a)
theorem xL:af0 213 #[vI m,vI n] F (vI (aV (m+n))):=by
 refine QG Tryz.func213<|ae 13 [] λ _=>QJ _ _ ⟨rfl,rfl⟩
theorem xM:af0 267 #[vI m,vI n] F (vI (aV (m-n))):=by
 refine QG Tryz.func267<|ae 13 [] λ _=>QJ _ _ ⟨rfl,rfl⟩
theorem qa {d:Int}{b:Nat}(hb:(b,.lit [vI d] 3 (0,0))∈F):af0 250 #[vI m,vI n,vP b 0] F (vI (av m n d)):=by
 refine QH Tryz.func250 hb<|Sr 10 [.ro 0]<|aah (gj m n d)<|ae 3 [] λ _=>QJ _ _ ⟨rfl,rfl⟩
theorem Hk:af0 212 #[.agg #[vI a.x,vI a.y],.agg #[vI b.x,vI b.y],.func (.func 213) #[] #[]] F (.agg #[vI ((br a b).x),vI ((br a b).y)]):=by
 refine QG Tryz.func212<|ae 8 [] λ n1=>aak [13] []<|af [] [0,1,3,6,7,9,2,4,8,10] [.o 2,.o 1,.o 2,.o 1]<|aac [] 5 (λ X_=>(xL a.x b.x))<|aac [] 11 (λ X_=>(xL a.y b.y))<|afZ [12]<|Sx 13 [] (aab 2)<|aad<|ae 1 [] λ _=>aap (aab 2) [] [] ⟨rfl,rfl⟩
theorem Hm:af0 212 #[.agg #[vI a.x,vI a.y],.agg #[vI b.x,vI b.y],.func (.func 267) #[] #[]] F (.agg #[vI ((dm a b).x),vI ((dm a b).y)]):=by
 refine QG Tryz.func212<|ae 8 [] λ n1=>aak [13] []<|af [] [0,1,3,6,7,9,2,4,8,10] [.o 2,.o 1,.o 2,.o 1]<|aac [] 5 (λ X_=>(xM a.x b.x))<|aac [] 11 (λ X_=>(xM a.y b.y))<|afZ [12]<|Sx 13 [] (aab 2)<|aad<|ae 1 [] λ _=>aap (aab 2) [] [] ⟨rfl,rfl⟩
theorem Hn:af0 212 #[.agg #[vI a.x,vI a.y],.agg #[vI b.x,vI b.y],.func (.func 215) #[] #[]] F (.agg #[vI ((⟨f9 a.x b.x,f9 a.y b.y⟩:V2).x),vI ((⟨f9 a.x b.x,f9 a.y b.y⟩:V2).y)]):=by
 refine QG Tryz.func212<|ae 8 [] λ n1=>aak [13] []<|af [] [0,1,3,6,7,9,2,4,8,10] [.o 2,.o 1,.o 2,.o 1]<|aac [] 5 (λ X_=>(nW a.x b.x))<|aac [] 11 (λ X_=>(nW a.y b.y))<|afZ [12]<|Sx 13 [] (aab 2)<|aad<|ae 1 [] λ _=>aap (aab 2) [] [] ⟨rfl,rfl⟩
theorem xN{d:Int}{q:Nat}(hq:(q,.lit [vI d] 3 (0,0))∈F):af0 212 #[.agg #[vI a.x,vI a.y],.agg #[vI b.x,vI b.y],.func (.func 250) #[] #[vP q 0]] F (.agg #[vI ((⟨av a.x b.x d,av a.y b.y d⟩:V2).x),vI ((⟨av a.x b.x d,av a.y b.y d⟩:V2).y)]):=by
 refine QH Tryz.func212 hq<|ae 8 [] λ n1=>aak [13] []<|af [] [0,1,3,6,7,9,2,4,8,10] [.o 2,.o 1,.o 2,.o 1]<|aac [] 5 (λ X_=>(qa a.x b.x (AQ hq)))<|aac [] 11 (λ X_=>(qa a.y b.y (AQ hq)))<|afZ [12]<|Sx 13 [] (aab 2)<|aad<|ae 1 [] λ _=>aap (aab 2) [] [] ⟨rfl,rfl⟩
theorem qb:af0 214 #[vI n] F (.agg #[vI n,vI n]):=by
 refine QG Tryz.func214<|ae 13 (aab 2) λ n1=>aap (aab 2) [] [] ⟨rfl,rfl⟩
theorem eV:af0 184 #[.agg #[vI a.x,vI a.y],.agg #[vI b.x,vI b.y]] F (.agg #[vI ((br a b).x),vI ((br a b).y)]):=by
 refine QG Tryz.func184<|ae 11 [.o 2,.o 2,.o 1,.o 1] λ n1=>aah (Hk a b)<|ae 3 (aab 2) λ _=>aap (aab 2) [] [] ⟨rfl,rfl⟩
theorem i2:af0 239 #[.agg #[vI a.x,vI a.y],.agg #[vI b.x,vI b.y]] F (.agg #[vI ((dm a b).x),vI ((dm a b).y)]):=by
 refine QG Tryz.func239<|ae 11 [.o 2,.o 2,.o 1,.o 1] λ n1=>aah (Hm a b)<|ae 3 (aab 2) λ _=>aap (aab 2) [] [] ⟨rfl,rfl⟩
theorem Hs:af0 240 #[.agg #[vI a.x,vI a.y]] F (.agg #[vI ((Eu a).x),vI ((Eu a).y)]):=by
 refine QG Tryz.func240<|ae 10 [.o 1,.o 1] λ n1=>aah (i2 (⟨0,0⟩:V2) a)<|ae 3 (aab 2) λ _=>aap (aab 2) [] [] ⟨rfl,rfl⟩
theorem gl(f:Int):af0 185 #[.agg #[vI a.x,vI a.y],vI f] F (.agg #[vI ((ao a f).x),vI ((ao a f).y)]):=by
 refine QG Tryz.func185<|ae 7 [] λ n1=>aak [4] []<|af [] [0,1] [.o 1,.o 1]<|aac [] 2 (λ X_=>(qb f))<|aac [] 3 (λ X_=>(Hn a (⟨f,f⟩:V2)))<|Sx 4 [] (aab 2)<|aad<|ae 1 [] λ _=>aap (aab 2) [] [] ⟨rfl,rfl⟩
theorem lu(d:Int):af0 220 #[.agg #[vI a.x,vI a.y],vI n,vI d] F (.agg #[vI ((eM a n d).x),vI ((eM a n d).y)]):=by
 refine QG Tryz.func220<|ae 8 [] λ n1=>aak [5] []<|af [] [0,1,3] [.o 2,.o 2]<|aac [] 2 (λ X_=>(qb n))<|aac [] 4 (λ X_=>(xN a (⟨n,n⟩:V2) (d:=d) (q:=n1+1) (eF 1)))<|Sx 5 [] (aab 2)<|aad<|ae 1 [] λ _=>aap (aab 2) [] [] ⟨rfl,rfl⟩
theorem Ev:af0 266 #[vI n] F (vI (Hj n)):=by
 refine QG Tryz.func266<|ae 12 [] λ _=>QJ _ _ ⟨rfl,rfl⟩
theorem nY:af0 238 #[.agg #[vI a.x,vI a.y],.agg #[vI b.x,vI b.y]] F (vI (cS a b)):=by
 refine QG Tryz.func238<|ae 20 [.o 1,.o 0,.o 1,.o 0] λ n1=>aah (Ev (i64.wrap ((i64.wrap (a.x*b.x))+(i64.wrap (a.y*b.y)))))<|ae 3 [] λ _=>QJ _ _ ⟨rfl,rfl⟩
theorem Ht:af0 301 #[.agg #[vI a.x,vI a.y]] F (vI (vlen a)):=by
 refine QG Tryz.func301<|ae 19 (aab 4) λ n1=>aah (Et (i64.wrap ((i64.wrap (a.x*a.x))+(i64.wrap (a.y*a.y)))))<|ae 3 [] λ _=>QJ _ _ ⟨rfl,rfl⟩
theorem Ew:af0 296 #[.agg #[vI a.x,vI a.y]] F (.agg #[vI ((kS a).x),vI ((kS a).y)]):=by
 refine QG Tryz.func296<|ae 14 [.o 1,.o 1,.sq] λ n1=>il ((decide (a.x=0) && (decide (a.y=0) && true))) 5 (λ h2=>?_) λ h2=>?_
 ·refine Sr 7 [.o 1,.o 1,.o 0,.o 0]<|QI (aab 2) [] [] (.agg #[vI a.x,vI a.y]) [] ⟨?_,rfl⟩;unfold kS
  first|rw[if_pos (by simpa [uj] using h2)]|rw[if_neg (by simpa [uj] using h2)]
 ·refine OG 4<|aak [4] []<|af [] [0,1] (ow 1 4)<|aac [] 2 (λ X_=>(Ht a))<|aac [] 3 (λ X_=>(lu a 1024 (vlen a)))<|Sx 4 [] (aab 2)<|QQ 1<|QI (aab 2) [] [] (.agg #[vI ((eM a 1024 (vlen a)).x),vI ((eM a 1024 (vlen a)).y)]) [] ⟨?_,rfl⟩;unfold kS
  first|rw[if_pos (by simpa [uj] using h2)]|rw[if_neg (by simpa [uj] using h2)]
structure Shp where (r:Int) (poly:List V2) (A:Option Addr) (cap:Nat)
abbrev Qw(s:Shp):Value:=.agg #[vI s.r,.slice s.A s.poly.length s.cap]
def jL(l:List V2):Nat->Nat->Value:=λ i k=>match k with|0=>vI (l.getD i ⟨0,0⟩).x|_=>vI (l.getD i ⟨0,0⟩).y
inductive ShIn(F:HL):Shp->Prop
 |circle (r:Int) (A:Option Addr) (cap:Nat):ShIn F ⟨r,[],A,cap⟩
 |poly (r:Int) (l:List V2) (b cap:Nat) (h:(b,.rows 2 cap (jL l) 30 (0,0))∈F) (h3:3<=l.length) (h4:l.length<=cap) (h5:l.length<=1000000):ShIn F ⟨r,l,some ⟨b,0,none⟩,cap⟩
theorem ShIn.mono{F':HL}{s:Shp}(h:ShIn F s)(hs:∀x∈F,x∈F'):ShIn F' s:=by
 cases h with
 |circle r A cap=>exact .circle r A cap
 |poly r l b cap h h3 h4 h5=>exact .poly r l b cap (hs _ h) h3 h4 h5
def jD(s:Shp):Prop:=s.poly=[]
instance (s:Shp):Decidable (jD s):=decidable_of_iff (s.poly.isEmpty=true) (by simp[jD])
def Q5(b:Bx)(c:V2):Bx:=⟨if c.x<b.x0 then c.x else b.x0,if c.y<b.y0 then c.y else b.y0,if c.x>b.x1 then c.x else b.x1,if c.y>b.y1 then c.y else b.y1⟩
def mI(pos:V2)(l:List V2):Nat->Bx
 |0=>⟨(br pos (l.getD 0 ⟨0,0⟩)).x,(br pos (l.getD 0 ⟨0,0⟩)).y,(br pos (l.getD 0 ⟨0,0⟩)).x,(br pos (l.getD 0 ⟨0,0⟩)).y⟩
 |k+1=>Q5 (mI pos l k) (br pos (l.getD (1+k) ⟨0,0⟩))
def d6(s:Shp)(pos:V2):Bx:=if jD s then ⟨aV (pos.x-s.r),aV (pos.y-s.r),aV (pos.x+s.r),aV (pos.y+s.r)⟩ else mI pos s.poly (s.poly.length-1)
def qf(a b c d:Int):Prop:=a<=d/\c<=b
instance (a b c d:Int):Decidable (qf a b c d):=inferInstanceAs (Decidable (_/\_))
def Qx(a b:Bx):Prop:=qf a.x0 a.x1 b.x0 b.x1/\qf a.y0 a.y1 b.y0 b.y1
instance (a b:Bx):Decidable (Qx a b):=inferInstanceAs (Decidable (_/\_))
theorem pg(A:Option Addr)(n cap:Nat):af0 119 #[.agg #[vI r,.slice A n cap]] F (.bool (decide ((n:Int)=0))):=by
 refine QG Tryz.func119<|ae 15 [.o 0] λ n1=>QJ _ _ ⟨rfl,rfl⟩
theorem i3(A:Option Addr)(n cap:Nat):af0 263 #[.agg #[vI r,.slice A n cap]] F (.bool (decide ((n:Int)=0))):=by
 refine QG Tryz.func263<|ae 15 [.o 0] λ n1=>QJ _ _ ⟨rfl,rfl⟩
theorem xO(a:Int)(b:Int)(c:Int)(d:Int):af0 260 #[vI a,vI b,vI c,vI d] F (.bool (decide (qf a b c d))):=by
 refine QG Tryz.func260<|OG 11<|aal (a<=d) 12 (λ h1=>?_) λ h1=>?_
 ·refine OG 7<|QJ (.bool (decide (c<=b))) [] ⟨by simp[qf, *],rfl⟩
 ·refine OG 7<|QJ (.bool false) [] ⟨by simp[qf, *],rfl⟩
theorem LL(a:Bx)(b:Bx):af0 234 #[.agg #[vI a.x0,vI a.y0,vI a.x1,vI a.y1],.agg #[vI b.x0,vI b.y0,vI b.x1,vI b.y1]] F (.bool (decide (Qx a b))):=by
 refine QG Tryz.func234<|ae 17 [.o 1,.o 1,.o 0,.o 0] λ n1=>aah (xO a.x0 a.x1 b.x0 b.x1)<|OG 1<|aal (qf a.x0 a.x1 b.x0 b.x1) 14 (λ h2=>?_) λ h2=>?_
 ·refine Sr 8 [.o 1,.o 1,.o 0,.o 0]<|aah (xO a.y0 a.y1 b.y0 b.y1)<|OG 4<|QJ (.bool (decide (qf a.y0 a.y1 b.y0 b.y1))) [] ⟨by simp[Qx, *],rfl⟩
 ·refine OG 13<|QJ (.bool false) [] ⟨by simp[Qx, *],rfl⟩
theorem tC(A:Option Addr)(cap:Nat)(pos:V2)(F:HL):af0 235 #[.agg #[vI r,.slice A 0 cap],.agg #[vI pos.x,vI pos.y]] F (.agg #[vI ((d6 ⟨r,[],A,cap⟩ pos).x0),vI ((d6 ⟨r,[],A,cap⟩ pos).y0),vI ((d6 ⟨r,[],A,cap⟩ pos).x1),vI ((d6 ⟨r,[],A,cap⟩ pos).y1)]):=by
 refine QG Tryz.func235<|ae 11 [.o 2,.o 2] λ n1=>aah (pg r A 0 cap)<|ae 29 ([.o 1,.o 2,.o 1,.o 2,.o 1,.o 2,.o 1,.o 2]++aab 4) λ _=>aap (aab 4) [] [] ⟨rfl,rfl⟩
theorem xP{l:List V2}{b:Nat}(hb:(b,.rows 2 cap (jL l) 30 (0,0))∈F)(h3:3<=l.length)(h4:l.length<=cap)(h5:l.length<=1000000):af0 235 #[.agg #[vI r,vS b 0 l.length cap],.agg #[vI pos.x,vI pos.y]] F (.agg #[vI ((d6 ⟨r,l,some ⟨b,0,none⟩,cap⟩ pos).x0),vI ((d6 ⟨r,l,some ⟨b,0,none⟩,cap⟩ pos).y0),vI ((d6 ⟨r,l,some ⟨b,0,none⟩,cap⟩ pos).x1),vI ((d6 ⟨r,l,some ⟨b,0,none⟩,cap⟩ pos).y1)]):=by
 refine QH Tryz.func235 hb<|ae 11 [.o 2,.o 2] λ n1=>aah (pg r (some ⟨b,0,none⟩) l.length cap)<|OG 2<|ci 11 (abv (show ¬ ((l.length:Int)=0) by omega))<|OG 4<|aak [7] []<|aH [] [0,1,2,3,4] [.o 1,.o 1,.o 2,.ix 0,.rorow 0 0 0,.rorow 0 0 1] [((0+0*2)+1)=0*2+1/\0<cap,(0+0*2)=0*2+0/\0<cap,0=((0:Nat):Int)/\0<l.length]<|aac [] 5 (λ X_=>(eV pos (l.getD 0 ⟨0,0⟩)))<|aae 6 (aag [] [] λ n2=>?_);refine Sx 7 [] (aab 2)<|aad<|ah 27 (ow 0 8++[.o 4,.sl 1 l.length false]) [1=((1:Nat):Int)/\l.length=l.length/\1<=l.length/\l.length<=cap/\cap≠1] λ n3=>aan (σ:=Nat) (λ k=>⟨[(3,vP (n1+1) 0),(4,vP (n1+2) 0),(6,vP (n3+0) 0),(50,vS b 2 (l.length-1) (cap-1)),(51,vI (((l.length-1):Nat):Int)),(52,vI (k:Int))],[((n3+0),.lit [vI ((mI pos l k).x0),vI ((mI pos l k).y0),vI ((mI pos l k).x1),vI ((mI pos l k).y1)] 26 (0,0)),((n2+0),.lit [vI ((br pos (l.getD 0 ⟨0,0⟩)).x),vI ((br pos (l.getD 0 ⟨0,0⟩)).y)] 30 (0,0)),((n1+2),.lit [vI 0,vI 0,vI 0,vI 0] 26 (0,0)),((n1+1),.lit [vI pos.x,vI pos.y] 30 (0,0)),((n1+0),.lit [vI r,vS b 0 l.length cap] 71 (0,0))],[],k<=l.length-1,l.length-k⟩) 0 [0,1,2,3,4] [] (aaJ _) ?_;rintro k hI4 Zk;refine OG 6<|aal ((k:Int)<(((l.length-1):Nat):Int)) 53 (λ h6=>?_) λ h6=>?_
 ·refine ah 17 [.ix k,.rorow 0 (1+k) 0,.rorow 0 (1+k) 1,.o 0,.o 0,.o 4,.o 4,.o 0,.o 0] [((2+k*2)+1)=(1+k)*2+1/\(1+k)<cap,(2+k*2)=(1+k)*2+0/\(1+k)<cap,(k:Int)=((k:Nat):Int)/\k<(l.length-1)] λ n7=>aah (eV pos (l.getD (1+k) ⟨0,0⟩))<|ae 5 (aab 2) λ n8=>aak [11,13] [0,1,3,4,5,6]<|af [0,1,3,4,5,6] [0,2,5,7,1,3,6,8,4,9,10] [.o 2,.o 0,.o 2,.ro 0]<|Sx 11 [0,1,3,4,5,6] [.o 2]<|af [0,1,3,4,5,6] [12] []<|Sx 13 [0,1,3,4,5,6] [.o 2]<|QQ 1<|aak [11,13] [0,1,3,4,5,6]<|af [0,1,3,4,5,6] [0,2,5,7,1,3,6,8,4,9,10] [.o 2,.o 0,.o 2,.ro 0]<|Sx 11 [0,1,3,4,5,6] [.o 2]<|af [0,1,3,4,5,6] [12] []<|Sx 13 [0,1,3,4,5,6] [.o 2]<|aad<|ah 6 [.nw] [aX ((k:Int)+1)] λ _=>Zk (k+1) [2,3,4,5,6] [] ?_
  try dsimp only
  refine⟨by omega,by omega⟩
 ·refine Sr 12 (aab 4++ow 2 4)<|QI (ow 2 4) [] [] (.agg #[vI ((mI pos l k).x0),vI ((mI pos l k).y0),vI ((mI pos l k).x1),vI ((mI pos l k).y1)]) [] ?_;have ek:k=l.length-1:=by omega
  subst ek;refine⟨?_,rfl⟩;unfold d6;rw[if_neg (by intro e;simp[jD] at e;rw[e] at h3;simp at h3)]
theorem rD{s:Shp}(h:ShIn F s):af0 235 #[Qw s,.agg #[vI pos.x,vI pos.y]] F (.agg #[vI (d6 s pos).x0,vI (d6 s pos).y0,vI (d6 s pos).x1,vI (d6 s pos).y1]):=by
 cases h with
 |circle r A cap=>exact tC r A cap pos F
 |poly r l b cap h h3 h4 h5=>exact xP r pos h h3 h4 h5
structure MemS where
 cs:List Int
 lg:List (Int×Int)
 base:Int
def MemS.get(M:MemS)(i:Int):Int:=if 0<=i/\i<M.cs.length then M.cs.getD i.toNat 0 else 0
def MemS.set(M:MemS)(i v:Int):MemS:=if 0<=i/\i<M.cs.length then ⟨M.cs.set i.toNat v,M.lg++[(i,M.cs.getD i.toNat 0)],M.base⟩ else M
def aY(cs:List Int):Nat->Nat->Value:=λ i k=>match k with|0=>vI (cs.getD i 0)|_=>default
theorem fS{cs:List Int}{i:Nat}(h:i<cs.length)(v:Int):db (aY cs) i 0 (vI v)=aY (cs.set i v):=by
 funext i' k';unfold db aY
 by_cases h1:i'=i
 ·subst h1;rcases k' with _|k'
  ·simp[h]
  ·simp
 ·rcases k' with _|k'
  ·have:¬ i=i':=λ e=>h1 e.symm;simp[h1,acS,this]
  ·simp
def i4:Enc (Int×Int):=⟨2,λ p k=>match k with|0=>vI p.1|_=>vI p.2,(0,0)⟩
noncomputable def NW:TypeInfo:=match Tryz.prog.info? 199 with | some i=>i | none=>⟨.bool,"",0,0,false,0,0,none,false,#[]⟩
noncomputable def NX:Value:=match NW.zero with|some z=>z|none=>.bool false
theorem rE:EncOk i4 Tryz.prog 199 NW NX where
 info:=by kernel_rfl
 zero:=by kernel_rfl
 size:=by kernel_rfl
 zsize:=by kernel_rfl
 zcell:=λ k hk=>by
  have h:∀k<2,NX.cells[k]?=some (i4.cell i4.dflt k):=by intro k hk;(iterate 2 (rcases k with _|k;· kernel_rfl));omega
  exact h k hk
 one:=λ x k=>by unfold i4;dsimp only;split <;> rfl
 bytes:=aaH (by kernel_rfl)
inductive MemH(mb:Nat)(M:MemS)(k:Nat):HL->Prop
 |mk (cb:Nat) (A:Option Addr) (cap:Nat) (Hl:HL) (hs:SlIs i4 199 M.lg A cap Hl) (hc:M.cs.length<=1000000) (hl:M.lg.length+k<=100000000):MemH mb M k (ap [(mb,.lit [vS cb 0 M.cs.length M.cs.length,.slice A M.lg.length cap,vI M.base] 164 (0,0)),(cb,.rows 1 M.cs.length (aY M.cs) 3 (0,0))] [Hl])
theorem MemH.weak{M:MemS}(h:MemH mb M k T)(hk:k'<=k):MemH mb M k' T:=by
 cases h with
 |mk cb A cap Hl hs hc hl=>exact .mk cb A cap Hl hs hc (by omega)
theorem MemH.cast{M M':MemS}(h:MemH mb M k T)(e:M'=M)(hk:k'<=k):MemH mb M' k' T:=e▸h.weak hk
theorem MemH.put{M:MemS}{i v:Int}(h:0<=i/\i<M.cs.length)(hc:M.cs.length<=1000000)(hl:M.lg.length+(k+1)<=100000000)(hs:SlIs i4 199 (M.lg++[(i,M.cs.getD i.toNat 0)]) A cap Hl) :
  MemH mb (M.set i v) k (ap [(mb,.lit [vS cb 0 M.cs.length M.cs.length,.slice A (M.lg.length+[(i,M.cs.getD i.toNat 0)].length) cap,vI M.base] 164 (0,0)),(cb,.rows 1 M.cs.length (db (aY M.cs) i.toNat 0 (vI v)) 3 (0,0))] [Hl]):=by
 have e:M.set i v=⟨M.cs.set i.toNat v,M.lg++[(i,M.cs.getD i.toNat 0)],M.base⟩:=by unfold MemS.set;rw[if_pos h]
 rw[e,fS (by omega)];have:=MemH.mk (M:=⟨M.cs.set i.toNat v,M.lg++[(i,M.cs.getD i.toNat 0)],M.base⟩) (k:=k) cb A cap Hl hs (by simpa using hc) (by simp;omega) (mb:=mb);simpa using this
theorem CU{n:Nat}{m:Nat}{base:Int}(hm:(mb,.lit [vS cb 0 n n,.slice A m cap,vI base] 164 (0,0))∈F):af1 96 #[vP mb 0,vI i] [] F (λ u H'=>u=.bool (decide (0<=i/\i<n))/\H'=[]):=by
 refine QH Tryz.func96 hm<|OG 10<|aal (0<=i) 7 (λ h1=>?_) λ h1=>?_
 ·refine Sr 11 [.ro 0]<|QJ (.bool (decide (i<(n:Int)))) [] ⟨by simp[*],rfl⟩
 ·refine OG 11<|QJ (.bool false) [] ⟨by simp[*],rfl⟩
theorem LM{cs:List Int}{m:Nat}{base:Int}(lg:List (Int×Int))(hm:(mb,.lit [vS cb 0 cs.length cs.length,.slice A m cap,vI base] 164 (0,0))∈F)(hc:(cb,.rows 1 cs.length (aY cs) 3 (0,0))∈F)(hn:cs.length<=1000000):af0 62 #[vP mb 0,vI i] F (vI (MemS.get ⟨cs,lg,base⟩ i)):=by
 refine rx Tryz.func62 (mc hm (mc hc mn)) [] []<|OG 10<|aah (CU i (aC hm))<|OG 3<|aam (0<=i/\i<cs.length) 8 (λ h1=>?_) λ h1=>?_
 ·refine ah 15 [.ro 0,.ix ((i).toNat),.rorow 1 ((i).toNat) 0] [(0+((i).toNat)*1)=((i).toNat)*1+0/\((i).toNat)<cs.length,i=(((i).toNat:Nat):Int)/\(i).toNat<cs.length] λ _=>QJ (vI (cs.getD ((i).toNat) 0)) [] ⟨by simp[MemS.get, *],rfl⟩
 ·refine OG 6<|QJ (vI 0) [] ⟨by simp[MemS.get, *],rfl⟩
theorem aA{M:MemS}(h:MemH mb M k T)(hs:∀x∈T,x∈F):af0 62 #[vP mb 0,vI i] F (vI (M.get i)):=by
 cases h with
 |mk cb A cap Hl Wp hc hl=>exact LM (mb:=mb) (cb:=cb) (cs:=M.cs) (A:=A) (m:=M.lg.length) (cap:=cap) (base:=M.base) i M.lg (F:=F) (hs _ (by simp)) (hs _ (by simp)) hc
theorem jq{M:MemS}{i:Int}{c:Int}(e:M.get i=c)(h:MemH mb M k T)(hs:∀x∈T,x∈F):af0 62 #[vP mb 0,vI i] F (vI c):=e▸aA i h hs
theorem LN(mb cb:Nat)(M:MemS)(k:Nat)(i v:Int)(F:HL)(hs:SlIs i4 199 M.lg A cap Hl)(hc:M.cs.length<=1000000)(hl:M.lg.length+(k+1)<=100000000):af1 330 #[vP mb 0,vI i,vI v] (ap [(mb,.lit [vS cb 0 M.cs.length M.cs.length,.slice A M.lg.length cap,vI M.base] 164 (0,0)),(cb,.rows 1 M.cs.length (aY M.cs) 3 (0,0))] [Hl]) F (λ u H'=>MemH mb (M.set i v) k H'):=by
 refine QF Tryz.func330 mn<|OG 5<|aah (CU (mb:=mb) (cb:=cb) (n:=M.cs.length) (A:=A) (m:=M.lg.length) (cap:=cap) (base:=M.base) i (ay 0))<|OG 3<|aam (0<=i/\i<M.cs.length) 9 (λ h1=>?_) λ h1=>?_
 ·refine OG 4<|aak [15,18] []<|aH [] [0,1,5,6,10,2,7,3,8,4,9,11,12,13] [.o 0,.o 0,.ix ((i).toNat),.row 1 ((i).toNat) 0] [(0+((i).toNat)*1)=((i).toNat)*1+0/\((i).toNat)<M.cs.length,i=(((i).toNat:Nat):Int)/\(i).toNat<M.cs.length]<|aae 14 (aag [] [] λ n3=>?_);refine aae 15 (vO [] rE [(i,M.cs.getD i.toNat 0)] 0 0 rfl hs (by simp;omega) ?_);rintro A4 c5 T6 ⟨hs7,hz8⟩;refine afZ [16,17]<|Sx 18 [] [.o 1]<|aad<|ah 11 [.o 1,.ix ((i).toNat),.row 2 ((i).toNat) 0] [(0+((i).toNat)*1)=((i).toNat)*1+0/\((i).toNat)<M.cs.length,i=(((i).toNat:Nat):Int)/\(i).toNat<M.cs.length] λ _=>QI [] [1,2] [0] (.tuple #[]) (ap [(mb,.lit [vS cb 0 M.cs.length M.cs.length,.slice A4 (M.lg.length+([(i,M.cs.getD i.toNat 0)]).length) c5,vI M.base] 164 (0,0)),(cb,.rows 1 M.cs.length (db (aY M.cs) ((i).toNat) 0 (vI v)) 3 (0,0))] [T6])<|MemH.put (by omega) hc (by omega) hs7
 ·refine OG 1<|QI [] [0,1] [0] (.tuple #[]) (ap [(mb,.lit [vS cb 0 M.cs.length M.cs.length,.slice A M.lg.length cap,vI M.base] 164 (0,0)),(cb,.rows 1 M.cs.length (aY M.cs) 3 (0,0))] [Hl]) ?_;have e:M.set i v=M:=by unfold MemS.set;rw[if_neg (by assumption)]
  rw[e];exact .mk cb A cap Hl hs hc (by omega)
theorem al{M:MemS}(v:Int)(h:MemH mb M (k+1) T):af1 330 #[vP mb 0,vI i,vI v] (ap [] [T]) F (λ u H'=>∃x,H'=ap ((λ _=>[]) x) ((λ x=>[x]) x)/\MemH mb (M.set i v) k x):=by
 cases h with
 |mk cb A cap Hl Wp hc hl=>
  have e:∀T:HL,ap [] [T]=T:=λ T=>by simp
  have:=LN mb cb M k i v F Wp hc hl;rw[e];exact this.mono λ u H' h=>⟨H',(e H').symm,h⟩
structure Bod where (sh:Shp) (mot:Mot) (a b:Int)
abbrev dB:Bod:=⟨⟨0,[],none,0⟩,⟨0,0,0,0,0⟩,0,0⟩
def lc:Enc Bod:=⟨9,λ p k=>match k with|0=>vI p.sh.r|1=>.slice p.sh.A p.sh.poly.length p.sh.cap|2=>vI p.mot.px|3=>vI p.mot.py|4=>vI p.mot.vx|5=>vI p.mot.vy|6=>vI p.mot.inv|7=>vI p.a|_=>vI p.b,dB⟩
noncomputable def NY:TypeInfo:=match Tryz.prog.info? 76 with | some i=>i | none=>⟨.bool,"",0,0,false,0,0,none,false,#[]⟩
noncomputable def NZ:Value:=match NY.zero with|some z=>z|none=>.bool false
theorem Bb:EncOk lc Tryz.prog 76 NY NZ where
 info:=by kernel_rfl
 zero:=by kernel_rfl
 size:=by kernel_rfl
 zsize:=by kernel_rfl
 zcell:=λ k hk=>by
  have h:∀k<9,NZ.cells[k]?=some (lc.cell lc.dflt k):=by intro k hk;(iterate 9 (rcases k with _|k;· kernel_rfl));omega
  exact h k hk
 one:=λ x k=>by unfold lc;dsimp only;split <;> rfl
 bytes:=aaH (by kernel_rfl)
abbrev lw(l:List Bod):Nat->Nat->Value:=aD lc l
structure Setup where
 players:Int
 bb:Nat
 bo:Nat
 nb:Nat
 bc:Nat
 bR:Nat
 bods:List Bod
 box:Bx
 rA:Option Addr
 rn:Nat
 rc:Nat
 dA:Option Addr
 dn:Nat
 dc:Nat
 fog:Int
 g:V2
 push:Int
 drag:Int
 rest:Int
 rounds:Int
 fuel:Int
def Setup.body(S:Setup)(k:Nat):Bod:=S.bods.getD (S.bo+k) dB
structure SetN(S:Setup):Prop where
 pl:0<=S.players/\S.players<=1000000
 nb:S.nb<=1000000
structure SetIn(F:HL)(S:Setup):Prop extends SetN S where
 blk:(S.bb,.rows 9 S.bR (lw S.bods) 76 (0,0))∈F
 room:S.bo+S.nb<=S.bR
 shp:∀k,k<S.nb->ShIn F (S.body k).sh
theorem SetIn.up{X:HL}{S:Setup}(h:SetIn F S):SetIn (X++F) S :=
 ⟨h.toSetN,aaz _ h.blk,h.room,λ k hk=>(h.shp k hk).mono λ x hx=>aaz _ hx⟩
def ai(S:Setup)(k:Int):Int:=if k<0 then -1 else if k>=S.players then -1 else 48+4*k
def ag(S:Setup)(k:Int):Int:=if k<0 then -1 else if k>=S.nb then -1 else 48+4*S.players+8*k
def sizeOf(S:Setup):Int:=48+4*S.players+8*S.nb
theorem lx{S:Setup}(h:SetN S)(k:Int):(-1<=ai S k/\ai S k<=1000000000)/\(ai S k<0\/(0<=k/\k<S.players)):=by
 have:=h.pl;unfold ai;split
 ·omega
 ·split <;> omega
theorem dg{S:Setup}(h:SetN S)(k:Int):(-1<=ag S k/\ag S k<=1000000000)/\(ag S k<0\/(0<=k/\k<S.nb)):=by
 have:=h.pl;have:=h.nb;unfold ag;split
 ·omega
 ·split <;> omega
abbrev Setup.v(S:Setup):Value:=.agg #[vI S.players,vS S.bb (S.bo*9) S.nb S.bc,vI S.box.x0,vI S.box.y0,vI S.box.x1,vI S.box.y1,.slice S.rA S.rn S.rc,.slice S.dA S.dn S.dc,vI S.fog,vI S.g.x,vI S.g.y,vI S.push,vI S.drag,vI S.rest,vI S.rounds,vI S.fuel]
abbrev Setup.l(S:Setup):List Value:=[vI S.players,vS S.bb (S.bo*9) S.nb S.bc,vI S.box.x0,vI S.box.y0,vI S.box.x1,vI S.box.y1,.slice S.rA S.rn S.rc,.slice S.dA S.dn S.dc,vI S.fog,vI S.g.x,vI S.g.y,vI S.push,vI S.drag,vI S.rest,vI S.rounds,vI S.fuel]
theorem ly{S:Setup}(k:Int)(hn:SetN S):af0 178 #[(Setup.v S),vI k] F (vI (ai S k)):=by
 have h1:=hn.pl;have h2:=hn.nb;refine QG Tryz.func178<|ae 12 [] λ n1=>aal (k<0) 7 (λ h2=>?_) λ h2=>?_
 ·refine OG 13<|QJ (vI (-1)) [] ⟨?_,rfl⟩;simp only[ai,if_pos h2]
 ·refine Sr 7 [.o 0]<|aal (k>=S.players) 12 (λ h3=>?_) λ h3=>?_
  ·refine OG 6<|QJ (vI (-1)) [] ⟨?_,rfl⟩;simp only[ai,if_neg h2,if_pos h3]
  ·refine ah 11 [.nw,.nw] [aX (48+(4*k)),aX (4*k)] λ _=>QJ (vI (48+(4*k))) [] ⟨?_,rfl⟩;simp only[ai,if_neg h2,if_neg h3]
theorem dh{S:Setup}(k:Int)(hn:SetN S):af0 89 #[(Setup.v S),vI k] F (vI (ag S k)):=by
 have h1:=hn.pl;have h2:=hn.nb;refine QG Tryz.func89<|ae 12 [] λ n1=>aal (k<0) 7 (λ h2=>?_) λ h2=>?_
 ·refine OG 14<|QJ (vI (-1)) [] ⟨?_,rfl⟩;simp only[ag,if_pos h2]
 ·refine Sr 8 [.o 0]<|aal (k>=(S.nb:Int)) 13 (λ h3=>?_) λ h3=>?_
  ·refine OG 6<|QJ (vI (-1)) [] ⟨?_,rfl⟩;simp only[ag,if_neg h2,if_pos h3]
  ·refine ah 15 [.o 0,.nw,.nw,.nw,.nw] [aX ((48+(4*S.players))+(8*k)),aX (8*k),aX (48+(4*S.players)),aX (4*S.players)] λ _=>QJ (vI ((48+(4*S.players))+(8*k))) [] ⟨?_,rfl⟩;simp only[ag,if_neg h2,if_neg h3]
theorem Ey{S:Setup}(hn:SetN S):af0 88 #[(Setup.v S)] F (vI (sizeOf S)):=by
 have h1:=hn.pl;have h2:=hn.nb;refine QG Tryz.func88<|ah 20 [.o 0,.nw,.nw,.o 0,.nw,.nw] [aX ((48+(4*S.players))+(8*(S.nb:Int))),aX (8*(S.nb:Int)),aX (48+(4*S.players)),aX (4*S.players)] λ n1=>QJ _ _ ⟨rfl,rfl⟩
open Go.Shelf
section
variable {r:Option Nat} {P:Program} {N:Nat} {D:List Deferred} {F:HL} {w0:World} {R:HL} {s:Cfg} {Q:Exit->Act->World->Prop}
def ST(K:Act->World->Prop)(s:Cfg):Cfg:=match s with
 | ⟨.code c,k,L,A,Ts⟩=>⟨.code c,.met K::k,L,A,Ts⟩
 |s=>s
def Hu(s:Cfg):Bool:=match s.c with
 | .code _=>true
 |_=>false
def SU(V:Inv)(s:Cfg):Cfg:=⟨.ex .normal,s.k,V.L,V.A,V.Ts⟩
theorem RN.cut{σ:Type}(V:σ->Inv)
  (first:(∀ {s':Cfg} {R':HL} (x':σ) (ip jp:List Nat),(V x').I->(hm:Eh s'=some (MV N D F w0 V (λ x'=>(V x').I)):=by kernel_rfl)->(h:vN (V x') ip jp s'=nT (V x'):=by kernel_rfl)->(hp:aJ ip jp s'=true:=by kernel_rfl)->RN r P N D F w0 R' s' Q)->
   RN r P N D F w0 R (ST (MV N D F w0 V (λ x'=>(V x').I)) s) Q)
  (rest:∀x,(V x).I->RN r P N D F w0 R (SU (V x) s) Q) (hc:Hu s=true:=by kernel_rfl):RN r P N D F w0 R s Q:=by
 refine⟨λ hR a w h1 h2 h3=>?_⟩;have h4:=(first (λ x' ip jp hi hm h hp=>qN (x:=x') (ip:=ip) (jp:=jp) hi hm h hp)).h hR;obtain⟨c,k,L,A,Ts⟩:=s;unfold Hu at hc;split at hc
 case h_2=>cases hc
 rename_i c' e1;simp only at e1;subst e1;refine wpIn_mono (h4 a w h1 h2 h3) λ e a w q=>?_;cases e with
 |normal=>
  obtain⟨x,hI,m1,m2,m3⟩:=q;exact(rest x hI).h hR a w m1 m2 m3
 |exit id=>exact q
 |goto l=>exact q
 |ret=>exact q
 |panic ch=>exact q
 |outgrown=>exact q
end
end Go.Proofs.YtjokannbjmndfaaGreatDoor
