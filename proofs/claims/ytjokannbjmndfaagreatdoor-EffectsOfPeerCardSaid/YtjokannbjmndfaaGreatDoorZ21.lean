import Derived.Test.YtjokannbjmndfaaGreatDoorZ20
set_option linter.all false
set_option maxHeartbeats 4000000
set_option maxRecDepth 100000
namespace Go.Proofs.YtjokannbjmndfaaGreatDoor
open Go.RowKit
variable {F:HL} {k n q:Nat} {ns:List Int} (lo hi:Int)
def eC(lo hi:Int)(ns:List Int):Prop:=∀k,k<ns.length->lo<=ns.getD k 0/\ns.getD k 0<=hi
instance (lo hi:Int) (ns:List Int):Decidable (eC lo hi ns):=inferInstanceAs (Decidable (∀k,k<ns.length->_))
theorem yG:eC lo hi []:=λ k hk=>absurd hk (ot _)
theorem uE{lo hi x:Int}:eC lo hi (x::ns)↔(lo<=x/\x<=hi)/\eC lo hi ns:=by
 constructor
 ·intro h;exact⟨h 0 (Nat.succ_pos _),λ k hk=>h (k+1) (Nat.succ_lt_succ hk)⟩
 ·rintro⟨h1,h2⟩ k hk;cases k with
  |zero=>exact h1
  |succ k=>exact h2 k (Nat.lt_of_succ_lt_succ hk)
theorem d9(hq:(q,.rows 1 ns.length (aY ns) 3 (0,0))∈F)(hn:ns.length<=1000000):af0 122 #[vI lo,vI hi,vS q 0 ns.length ns.length] F (.bool (decide (eC lo hi ns))):=by
 refine QH Tryz.func122 hq<|OG 14<|aan (σ:=Nat) (λ k=>⟨[(0,vI lo),(1,vI hi),(9,vS q 0 ns.length ns.length),(10,vI (ns.length:Int)),(11,vI (k:Int))],[],[],k<=ns.length/\∀t,t<k->lo<=ns.getD t 0/\ns.getD t 0<=hi,ns.length-k⟩) 0 [] [] (⟨aaJ _,λ t ht=>absurd ht (ot _)⟩) ?_;rintro k ⟨hkl,hwk⟩ Ue;refine OG 6<|aal ((k:Int)<(ns.length:Int)) 12 (λ h3=>?_) λ h3=>?_
 ·refine ah 18 [.ix k,.rorow 0 k 0] [(0+k*1)=k*1+0/\k<ns.length,(k:Int)=((k:Nat):Int)/\k<ns.length] λ _=>aal (ns.getD k 0<lo) 18 (λ h4=>?_) λ h4=>?_
  ·refine OG 12<|QJ (.bool false) [] ⟨by rw[abv (show ¬ eC lo hi ns from λ h_=>by have:=h_ k (by omega);omega)],rfl⟩
  ·refine OG 6<|aal (ns.getD k 0>hi) 22 (λ h5=>?_) λ h5=>?_
   ·refine OG 6<|QJ (.bool false) [] ⟨by rw[abv (show ¬ eC lo hi ns from λ h_=>by have:=h_ k (by omega);omega)],rfl⟩
   ·refine ah 8 [.nw] [aX ((k:Int)+1)] λ _=>Ue (k+1) [] [] ?_
    try dsimp only
    refine⟨⟨by omega,λ t ht=>?_⟩,by omega⟩;rcases aa9 t k with h_|h_
    ·exact hwk t h_
    ·obtain rfl:t=k:=by omega
     exact⟨by omega,by omega⟩
 ·refine OG 11<|QJ (.bool true) [] ⟨by rw[abw (show eC lo hi ns from λ t ht=>hwk t (by omega))],rfl⟩
def gF(b:Bx):Prop:=(b.x0<=b.x1/\b.y0<=b.y1)/\eC (-1048576) 1048576 [b.x0,b.y0,b.x1,b.y1]
instance (b:Bx):Decidable (gF b):=inferInstanceAs (Decidable (_/\_))
def fX(b:Bod)(x:Bx):Prop:=eC 0 4096 [b.mot.inv]/\eC (-16384) 16384 [b.mot.vx,b.mot.vy]/\eC x.x0 x.x1 [b.mot.px]/\eC x.y0 x.y1 [b.mot.py]/\eC (-2147483647) 2147483647 [b.a,b.b]
instance (b:Bod) (x:Bx):Decidable (fX b x):=inferInstanceAs (Decidable (_/\_))
def jS(S:Setup):Prop:=eC 1 8 [S.players]/\eC S.players 24 [(S.nb:Int)]/\eC 0 4194304 [S.fog]/\eC (-16384) 16384 [S.g.x,S.g.y]/\eC 0 16384 [S.push]/\eC 0 1024 [S.drag,S.rest]/\eC 1 4 [S.rounds]/\eC 0 1000 [S.fuel]
instance (S:Setup):Decidable (jS S):=inferInstanceAs (Decidable (_/\_))
theorem r7(b:Bx):af0 81 #[.agg #[vI b.x0,vI b.y0,vI b.x1,vI b.y1]] F (.bool (decide (gF b))):=by
 refine QG Tryz.func81<|ae 14 (aab 2) λ n1=>aal (b.x0<=b.x1) 8 (λ h2=>?_) λ h2=>?_
 ·refine Sr 7 (aab 2)<|aal (b.y0<=b.y1) 15 (λ h3=>?_) λ h3=>?_
  ·refine ae 9 (aab 4) λ n4=>aaj 0 (.rows 1 4 (aY [b.x0,b.y0,b.x1,b.y1]) 3 (0,0))<|aah (d9 (-1048576) 1048576 (ns:=[b.x0,b.y0,b.x1,b.y1]) (q:=n4+0) (ay 0) (aaH rfl))<|OG 4<|QJ (.bool (decide (eC (-1048576) 1048576 [b.x0,b.y0,b.x1,b.y1]))) [] ⟨by simp[gF, *],rfl⟩
  ·refine OG 14<|QJ (.bool false) [] ⟨by simp[gF, *],rfl⟩
 ·refine OG 21<|QJ (.bool false) [] ⟨by simp[gF, *],rfl⟩
theorem Fv(b:Bod)(x:Bx):af0 83 #[.agg #[vI b.sh.r,.slice b.sh.A b.sh.poly.length b.sh.cap,vI b.mot.px,vI b.mot.py,vI b.mot.vx,vI b.mot.vy,vI b.mot.inv,vI b.a,vI b.b],.agg #[vI x.x0,vI x.y0,vI x.x1,vI x.y1]] F (.bool (decide (fX b x))):=by
 refine QG Tryz.func83<|ae 20 (ow 1 5++ow 0 6) λ n1=>aaj 0 (.rows 1 1 (aY [b.mot.inv]) 3 (0,0))<|aah (d9 0 4096 (ns:=[b.mot.inv]) (q:=n1+3) (ay 0) (aaH rfl))<|OG 1<|aal (eC 0 4096 [b.mot.inv]) 12 (λ h2=>?_) λ h2=>?_
 ·refine ae 7 [.o 1,.o 1] λ n3=>aaj 0 (.rows 1 2 (aY [b.mot.vx,b.mot.vy]) 3 (0,0))<|aah (d9 (-16384) 16384 (ns:=[b.mot.vx,b.mot.vy]) (q:=n3+0) (ay 0) (aaH rfl))<|OG 2<|aal (eC (-16384) 16384 [b.mot.vx,b.mot.vy]) 22 (λ h4=>?_) λ h4=>?_
  ·refine ae 8 [.o 3,.o 3,.o 2] λ n5=>aaj 0 (.rows 1 1 (aY [b.mot.px]) 3 (0,0))<|aah (d9 x.x0 x.x1 (ns:=[b.mot.px]) (q:=n5+0) (ay 0) (aaH rfl))<|OG 2<|aal (eC x.x0 x.x1 [b.mot.px]) 33 (λ h6=>?_) λ h6=>?_
   ·refine ae 8 [.o 4,.o 4,.o 3] λ n7=>aaj 0 (.rows 1 1 (aY [b.mot.py]) 3 (0,0))<|aah (d9 x.y0 x.y1 (ns:=[b.mot.py]) (q:=n7+0) (ay 0) (aaH rfl))<|OG 2<|aal (eC x.y0 x.y1 [b.mot.py]) 44 (λ h8=>?_) λ h8=>?_
    ·refine ae 5 [.o 6,.o 6] λ n9=>aaj 0 (.rows 1 2 (aY [b.a,b.b]) 3 (0,0))<|aah (d9 (-2147483647) 2147483647 (ns:=[b.a,b.b]) (q:=n9+0) (ay 0) (aaH rfl))<|OG 4<|QJ (.bool (decide (eC (-2147483647) 2147483647 [b.a,b.b]))) [] ⟨by simp[fX, *],rfl⟩
    ·refine OG 10<|QJ (.bool false) [] ⟨by simp[fX, *],rfl⟩
   ·refine OG 21<|QJ (.bool false) [] ⟨by simp[fX, *],rfl⟩
  ·refine OG 32<|QJ (.bool false) [] ⟨by simp[fX, *],rfl⟩
 ·refine OG 42<|QJ (.bool false) [] ⟨by simp[fX, *],rfl⟩
theorem IR(S:Setup):af0 80 #[(Setup.v S)] F (.bool (decide (jS S))):=by
 refine QG Tryz.func80<|ae 11 [.o 0] λ n1=>aaj 0 (.rows 1 1 (aY [S.players]) 3 (0,0))<|aah (d9 1 8 (ns:=[S.players]) (q:=n1+1) (ay 0) (aaH rfl))<|OG 1<|aal (eC 1 8 [S.players]) 7 (λ h2=>?_) λ h2=>?_
 ·refine ae 6 [.o 1,.o 1] λ n3=>aaj 0 (.rows 1 1 (aY [(S.nb:Int)]) 3 (0,0))<|aah (d9 S.players 24 (ns:=[(S.nb:Int)]) (q:=n3+0) (ay 0) (aaH rfl))<|OG 2<|aal (eC S.players 24 [(S.nb:Int)]) 16 (λ h4=>?_) λ h4=>?_
  ·refine ae 3 [.o 2] λ n5=>aaj 0 (.rows 1 1 (aY [S.fog]) 3 (0,0))<|aah (d9 0 4194304 (ns:=[S.fog]) (q:=n5+0) (ay 0) (aaH rfl))<|OG 2<|aal (eC 0 4194304 [S.fog]) 22 (λ h6=>?_) λ h6=>?_
   ·refine ae 7 [.o 3,.o 3] λ n7=>aaj 0 (.rows 1 2 (aY [S.g.x,S.g.y]) 3 (0,0))<|aah (d9 (-16384) 16384 (ns:=[S.g.x,S.g.y]) (q:=n7+0) (ay 0) (aaH rfl))<|OG 2<|aal (eC (-16384) 16384 [S.g.x,S.g.y]) 32 (λ h8=>?_) λ h8=>?_
    ·refine ae 3 [.o 4] λ n9=>aaj 0 (.rows 1 1 (aY [S.push]) 3 (0,0))<|aah (d9 0 16384 (ns:=[S.push]) (q:=n9+0) (ay 0) (aaH rfl))<|OG 2<|aal (eC 0 16384 [S.push]) 38 (λ UE=>?_) λ UE=>?_
     ·refine ae 5 [.o 5,.o 5] λ n11=>aaj 0 (.rows 1 2 (aY [S.drag,S.rest]) 3 (0,0))<|aah (d9 0 1024 (ns:=[S.drag,S.rest]) (q:=n11+0) (ay 0) (aaH rfl))<|OG 2<|aal (eC 0 1024 [S.drag,S.rest]) 46 (λ UO=>?_) λ UO=>?_
      ·refine ae 3 [.o 6] λ n13=>aaj 0 (.rows 1 1 (aY [S.rounds]) 3 (0,0))<|aah (d9 1 4 (ns:=[S.rounds]) (q:=n13+0) (ay 0) (aaH rfl))<|OG 2<|aal (eC 1 4 [S.rounds]) 52 (λ XI=>?_) λ XI=>?_
       ·refine ae 3 [.o 7] λ n15=>aaj 0 (.rows 1 1 (aY [S.fuel]) 3 (0,0))<|aah (d9 0 1000 (ns:=[S.fuel]) (q:=n15+0) (ay 0) (aaH rfl))<|OG 4<|QJ (.bool (decide (eC 0 1000 [S.fuel]))) [] ⟨by simp[jS, *],rfl⟩
       ·refine OG 8<|QJ (.bool false) [] ⟨by simp[jS, *],rfl⟩
      ·refine OG 14<|QJ (.bool false) [] ⟨by simp[jS, *],rfl⟩
     ·refine OG 22<|QJ (.bool false) [] ⟨by simp[jS, *],rfl⟩
    ·refine OG 28<|QJ (.bool false) [] ⟨by simp[jS, *],rfl⟩
   ·refine OG 38<|QJ (.bool false) [] ⟨by simp[jS, *],rfl⟩
  ·refine OG 44<|QJ (.bool false) [] ⟨by simp[jS, *],rfl⟩
 ·refine OG 53<|QJ (.bool false) [] ⟨by simp[jS, *],rfl⟩
def r8(n:Nat)(d:Dr):Prop:=eC 0 ((n:Int)-1) [d.a,d.b]/\¬ d.a=d.b
instance (n:Nat) (d:Dr):Decidable (r8 n d):=inferInstanceAs (Decidable (_/\_))
def mM(S:Setup)(rs:List Bx)(ds:List Dr):Prop:=((S.rn:Int)<=8/\(S.dn:Int)<=16)/\(∀k,k<S.rn->gF (rs.getD k yD.dflt))/\∀k,k<S.dn->r8 S.rn (ds.getD k ng.dflt)
instance (S:Setup) (rs:List Bx) (ds:List Dr):Decidable (mM S rs ds):=inferInstanceAs (Decidable (_/\_/\_))
theorem IU{S:Setup}{rs:List Bx}{ds:List Dr}(hM:MapIn F S rs ds):af0 82 #[(Setup.v S)] F (.bool (decide (mM S rs ds))):=by
 refine QG Tryz.func82<|ae 14 [.o 0] λ n1=>aal ((S.rn:Int)>8) 11 (λ h2=>?_) λ h2=>?_
 ·refine OG 13<|QJ (.bool false) [] ⟨by rw[abv (show ¬ mM S rs ds from λ h_=>by have:=h_.1;omega)],rfl⟩
 ·refine Sr 7 [.o 0]<|aal ((S.dn:Int)>16) 16 (λ h3=>?_) λ h3=>?_
  ·refine OG 6<|QJ (.bool false) [] ⟨by rw[abv (show ¬ mM S rs ds from λ h_=>by have:=h_.1;omega)],rfl⟩
  ·refine Sr 13 [.o 0]<|aan (σ:=Nat) (λ k=>⟨[(1,vP (n1+0) 0),(18,.slice S.rA S.rn S.rc),(19,vI (S.rn:Int)),(20,vI (k:Int))],[((n1+0),.lit (Setup.l S) 32 (0,0))],[],k<=S.rn/\∀t,t<k->gF (rs.getD t yD.dflt),S.rn-k⟩) 0 [0] [] (⟨aaJ _,λ t ht=>absurd ht (ot _)⟩) ?_;rintro k ⟨hkl,Yx⟩ Zk;refine OG 6<|aal ((k:Int)<(S.rn:Int)) 21 (λ h6=>?_) λ h6=>?_
   ·refine ae 7 [] λ _=>?_;obtain⟨qx7,WU,Nx7,fx7,ao6,aft,ahp,anG,ah_⟩:=hM.rooms.at (k:=k) (by omega);refine aw 18 (congrArg (λ v_=>(.slice v_ S.rn S.rc:Value)) aft)<|RN.ro (λ _=>(mc ahp mn))<|ah 2 [.ix k,.rorow 0 (WU+k) 0,.rorow 0 (WU+k) 1,.rorow 0 (WU+k) 2,.rorow 0 (WU+k) 3] [((WU*4+k*4)+3)=(WU+k)*4+3/\(WU+k)<Nx7,((WU*4+k*4)+2)=(WU+k)*4+2/\(WU+k)<Nx7,((WU*4+k*4)+1)=(WU+k)*4+1/\(WU+k)<Nx7,(WU*4+k*4)=(WU+k)*4+0/\(WU+k)<Nx7,(k:Int)=((k:Nat):Int)/\k<S.rn] λ _=>aw 23 (congrArg (λ v_=>(.agg #[vI v_.x0,vI v_.y0,vI v_.x1,vI v_.y1]:Value)) ah_)<|ae 7 (ow 0 8) λ n8=>aah (r7 (rs.getD k yD.dflt))<|OG 3<|aam (gF (rs.getD k yD.dflt)) 26 (λ h9=>?_) λ h9=>?_
    ·refine ah 8 [.nw] [aX ((k:Int)+1)] λ _=>aw 18 (congrArg (λ v_=>(.slice v_ S.rn S.rc:Value)) aft.symm)<|Zk (k+1) [1] [] ?_
     try dsimp only
     refine⟨⟨by omega,λ t ht=>?_⟩,by omega⟩;rcases aa9 t k with h_|h_
     ·exact Yx t h_
     ·obtain rfl:t=k:=by omega
      exact h9
    ·refine OG 6<|QJ (.bool false) [] ⟨by rw[abv (show ¬ mM S rs ds from λ h_=>h9 (h_.2.1 k (by omega)))],rfl⟩
   ·refine Sr 16 [.o 0]<|aan (σ:=Nat) (λ j=>⟨[(1,vP (n1+0) 0),(29,.slice S.dA S.dn S.dc),(30,vI (S.dn:Int)),(31,vI (j:Int))],[((n1+0),.lit (Setup.l S) 32 (0,0))],[],j<=S.dn/\∀t,t<j->r8 S.rn (ds.getD t ng.dflt),S.dn-j⟩) 0 [0] [] (⟨aaJ _,λ t ht=>absurd ht (ot _)⟩) ?_;rintro j ⟨W0,hd1⟩ abm;refine OG 6<|aal ((j:Int)<(S.dn:Int)) 32 (λ UO=>?_) λ UO=>?_
    ·refine ae 7 [] λ _=>?_;obtain⟨amD,Ww,afQ,apb,alG,aba,ad8,akK,aeF⟩:=hM.doors.at (k:=j) (by omega);refine aw 29 (congrArg (λ v_=>(.slice v_ S.dn S.dc:Value)) aba)<|RN.ro (λ _=>(mc ad8 mn))<|ah 2 [.ix j,.rorow 0 (Ww+j) 0,.rorow 0 (Ww+j) 1] [((Ww*2+j*2)+1)=(Ww+j)*2+1/\(Ww+j)<afQ,(Ww*2+j*2)=(Ww+j)*2+0/\(Ww+j)<afQ,(j:Int)=((j:Nat):Int)/\j<S.dn] λ _=>aw 34 (congrArg (λ v_=>(.agg #[vI v_.a,vI v_.b]:Value)) aeF)<|ah 15 [.o 0,.o 0,.o 1,.nw,.o 0,.o 0] [aX ((S.rn:Int)-1)] λ n14=>aaj 0 (.rows 1 2 (aY [(ds.getD j ng.dflt).a,(ds.getD j ng.dflt).b]) 3 (0,0))<|aah (d9 0 ((S.rn:Int)-1) (ns:=[(ds.getD j ng.dflt).a,(ds.getD j ng.dflt).b]) (q:=n14+1) (ay 0) (aaH rfl))<|OG 2<|aam (eC 0 ((S.rn:Int)-1) [(ds.getD j ng.dflt).a,(ds.getD j ng.dflt).b]) 46 (λ h15=>?_) λ h15=>?_
     ·refine Sr 8 [.o 1,.o 1]<|aal ((ds.getD j ng.dflt).a=(ds.getD j ng.dflt).b) 52 (λ Wu=>?_) λ Wu=>?_
      ·refine OG 6<|QJ (.bool false) [] ⟨by rw[abv (show ¬ mM S rs ds from λ h_=>(h_.2.2 j (by omega)).2 Wu)],rfl⟩
      ·refine ah 8 [.nw] [aX ((j:Int)+1)] λ _=>aw 29 (congrArg (λ v_=>(.slice v_ S.dn S.dc:Value)) aba.symm)<|abm (j+1) [2] [] ?_
       try dsimp only
       refine⟨⟨by omega,λ t ht=>?_⟩,by omega⟩;rcases aa9 t j with h_|h_
       ·exact hd1 t h_
       ·obtain rfl:t=j:=by omega
        exact⟨h15,Wu⟩
     ·refine OG 14<|QJ (.bool false) [] ⟨by rw[abv (show ¬ mM S rs ds from λ h_=>h15 (h_.2.2 j (by omega)).1)],rfl⟩
    ·refine OG 11<|QJ (.bool true) [] ⟨by rw[abw (show mM S rs ds from ⟨⟨by omega,by omega⟩,λ t ht=>Yx t (by omega),λ t ht=>hd1 t (by omega)⟩)],rfl⟩
def uF(v w p:V2):Int:=aV (aV (aV (w.x-v.x)*aV (p.y-v.y))-aV (aV (w.y-v.y)*aV (p.x-v.x)))
def wt(n:Nat):List (Int×Int):=(List.range n).map λ i:Nat=>((i:Int),((i:Int)+1)%(n:Int))
theorem r9(n:Nat):(wt n).length=n:=by simp[wt]
theorem yH(h:k<n):(wt n)[k]?=some ((k:Int),((k:Int)+1)%(n:Int)):=by simp[wt,h]
theorem yI{x:Int×Int}(h:(wt n)[k]?=some x):k<n/\x=((k:Int),((k:Int)+1)%(n:Int)):=by
 have hk:k<n:=by rw[<- r9 n];exact(bt.1 h).1
 rw[yH hk] at h;exact⟨hk,(ab8 h).symm⟩
abbrev Oh(x:Int×Int):Array Value:=#[vI x.1,vI x.2]
def yJ(n k:Nat):Int:=((k:Int)+1)%(n:Int)
abbrev vat(l:List V2)(k:Nat):V2:=l.getD k ⟨0,0⟩
def yK(f:Nat->V2)(n i:Nat):Prop:=¬ uF (f i) (f (yJ n i).toNat) ⟨0,0⟩<=0/\∀k,k<n->¬ (k:Int)=(i:Int)->¬ (k:Int)=yJ n i->¬ uF (f i) (f (yJ n i).toNat) (f k)<=0
instance (f:Nat->V2) (n i:Nat):Decidable (yK f n i):=inferInstanceAs (Decidable (_/\_))
def qm(f:Nat->V2)(n:Nat):Prop:=∀i,i<n->yK f n i
instance (f:Nat->V2) (n:Nat):Decidable (qm f n):=inferInstanceAs (Decidable (∀i,i<n->_))
theorem Mn(h:k<n):0<=yJ n k/\yJ n k<n:=⟨ac4 _ (by omega),acN _ (by omega)⟩
theorem yL{f g:Nat->V2}(h:∀k,k<n->f k=g k)(hf:qm f n):qm g n:=λ i hi=>by
 have hb:=Mn hi;have h1:=hf i hi;unfold yK at h1 ⊢;rw[h i hi,h (yJ n i).toNat (by omega)] at h1;refine⟨h1.1,λ k hk a b=>?_⟩;have:=h1.2 k hk a b;rwa [h k hk] at this
theorem uG(v w p:V2){qw qv:Nat}(hqw:(qw,.lit [vI w.x,vI w.y] 30 (0,0))∈F)(hqv:(qv,.lit [vI v.x,vI v.y] 30 (0,0))∈F):af0 203 #[.agg #[vI p.x,vI p.y],vP qw 0,vP qv 0] F (vI (uF v w p)):=by
 refine rx Tryz.func203 (mc hqw (mc hqv mn)) [] []<|ae 34 [.ro 0,.ro 1,.o 0,.ro 1,.ro 0,.ro 1,.o 0,.ro 1] λ n1=>QJ _ _ ⟨rfl,rfl⟩
theorem IV(v w:V2):af1 166 #[.agg #[vI v.x,vI v.y],.agg #[vI w.x,vI w.y]] (ap [] []) F (λ u H'=>∃n:Nat,H'=ap [((n+1),.lit [vI w.x,vI w.y] 30 (0,0)),((n+0),.lit [vI v.x,vI v.y] 30 (0,0))] []/\u=.func (.func 203) #[] #[vP (n+1) 0,vP (n+0) 0]):=by
 refine QG Tryz.func166<|ae 13 [] λ n1=>QI [] [0,1] [] (.func (.func 203) #[] #[vP (n1+1) 0,vP (n1+0) 0]) (ap [((n1+1),.lit [vI w.x,vI w.y] 30 (0,0)),((n1+0),.lit [vI v.x,vI v.y] 30 (0,0))] []) ⟨_,rfl,rfl⟩
theorem Fw(n:Nat):af1 165 #[vI (n:Int)] (ap [] []) F (λ u H'=>∃q:Nat,H'=ap [(q,.lit [vI (n:Int)] 3 (0,0))] []/\u=.func (.func 202) #[] #[vP q 0]):=by
 refine QG Tryz.func165<|ae 12 [] λ n1=>QI [] [0] [] (.func (.func 202) #[] #[vP (n1+0) 0]) (ap [((n1+0),.lit [vI (n:Int)] 3 (0,0))] []) ⟨_,rfl,rfl⟩
theorem BH (lp:Nat)(X:HL){J:Nat->HL->Prop}(Jx:HL->Prop){T0:HL}(hn:n<=1000000)(hq:(q,.lit [vI (n:Int)] 3 (0,0))∈F)(hY:∀i x H Y,(wt n)[i]?=some x->J i H->YL Tryz.prog lp (Oh x) H (Y++(X++F)) (λ b H'=>(b=true/\J (i+1) H')\/(b=false/\Jx H')))(W6:J 0 T0):af1 202 #[.func (.yield lp) #[] #[],vP q 0] (ap [] [T0]) (X++F) (λ _ H'=>J (wt n).length H'\/Jx H'):=by
 refine QF Tryz.func202 (mc (aaz X hq) mn)<|Sr 7 [.ro 0]<|aan (σ:=Nat×HL) (λ ⟨k,T_⟩=>⟨[(0,.func (.yield lp) #[] #[]),(1,vP q 0),(4,vI (n:Int)),(5,vI (k:Int))],[],[T_],k<=n/\J k T_,n-k⟩) (0,T0) [] [0] (⟨aaJ _,W6⟩) ?_;rintro⟨k,T_⟩ ⟨XT,U1⟩ Ue;refine OG 6<|aal ((k:Int)<(n:Int)) 6 (λ h3=>?_) λ h3=>?_
 ·refine ah 19 [.nw,.ro 0,.nw] [0<=(k:Int)+1/\(0:Int)<(n:Int)/\(k:Int)+1<=9223372036854775807,aX ((k:Int)+1)] λ _=>aar 0 (hY k _ _ _ (yH (by omega)) U1) ?_;rintro b_ T4 (⟨rfl,hJ5⟩|⟨rfl,hJ5⟩)
  ·refine ah 11 [.gen,.nw] [aX ((k:Int)+1)] λ _=>Ue (k+1,T4) [] [0] ?_
   try dsimp only
   exact⟨⟨by omega,hJ5⟩,by omega⟩
  ·refine OG 4<|QI [] [] [0] (.tuple #[]) (ap [] [T4]) ?_;rw[bm];exact .inr hJ5
 ·refine OG 5<|QI [] [] [0] (.tuple #[]) (ap [] [T_]) ?_;rw[bm];obtain rfl:k=n:=by omega
  exact .inl (by rw[r9];exact U1)
theorem IW(hn:n<=1000000)(hq:(q,.lit [vI (n:Int)] 3 (0,0))∈F):It Tryz.prog 202 #[vP q 0] F Oh (wt n):=by
 intro X l J Jx H0 hY h0;have key:=BH l X Jx hn hq hY h0;rw[bm] at key;exact key
theorem IX{full:List V2}{b:Nat} (o:Nat) {N:Nat} (cap:Nat){fz:Nat×Nat}(hb:(b,.rows 2 N (jL full) 30 fz)∈F)(ho:o+n<=N)(hnn:n<=1000000):af0 121 #[vS b (o*2) n cap] F (.bool (decide (qm (λ k_=>full.getD (o+k_) ⟨0,0⟩) n))):=by
 refine Sp.runM Tryz.func121 rfl (mc hb mn) (A:=[]) (Ts:=[]) rfl λ w0=>ae 9 [] λ n1=>Sr 2 [.o 1]<|Ss (Fw n) ?_;rintro _ q2 rfl;refine OG 3<|RN.range (σ:=Nat) (τ:=Nat) (encs:=λ (x_:Int×Int)=>#[vI x_.1,vI x_.2]) (xs:=(wt n)) (enters_of Tryz.func202 (by kernel_rfl) rfl) (λ m_=>([((n1+1),.lit [.bool false] 4 (0,0)),((n1+0),.lit [vS b (o*2) n cap] 69 (0,0))],[])) (λ i_ m_=>m_=i_/\∀t,t<m_->yK (λ k_=>full.getD (o+k_) ⟨0,0⟩) n t) (λ c_ m_=>c_=Code.ret/\¬ qm (λ k_=>full.getD (o+k_) ⟨0,0⟩) n) (λ m_=>⟨[(1,vP (n1+0) 0),(2,vP (n1+1) 0),(3,vI (m_:Int)),(4,vI (((m_:Int)+1)%(n:Int)))],[((n1+1),.lit [.bool false] 4 (0,0)),((n1+0),.lit [vS b (o*2) n cap] 69 (0,0))],[],True,0⟩) (λ i_ x_ m_=>m_=i_/\∀t,t<m_->yK (λ k_=>full.getD (o+k_) ⟨0,0⟩) n t) 0 (⟨rfl,λ t ht=>absurd ht (ot _)⟩) [1,2] [] (IW (q:=q2) hnn (ay 0)) ?_ ?_ ?_ ?_
 ·rintro l_ i_ x_ m_ Y3 w4 hx5 V7 Wx;obtain⟨rfl,iF⟩:=V7;obtain⟨ZU,rfl⟩:=yI hx5;refine ae 8 [] λ _=>Wx m_ [0,1] [] ?_
  try dsimp only
  exact⟨rfl,iF⟩
 ·rintro l_ i_ x_ m_ Y7 w8 hx9 V7;obtain⟨rfl,iF⟩:=V7;obtain⟨ZU,rfl⟩:=yI hx9;have hm1:=ac4 ((m_:Int)+1) (show (n:Int)≠0 by omega);have hm2:=acN ((m_:Int)+1) (show (0:Int)<n by omega);refine OG 2<|aak [] []<|aH [] [0,1,4,5,2,6,3,7] [.o 1,.o 1,.ix m_,.ix (((((m_:Int)+1)%(n:Int))).toNat),.rorow 1 (o+m_) 0,.rorow 1 (o+m_) 1,.rorow 1 (o+(((((m_:Int)+1)%(n:Int))).toNat)) 0,.rorow 1 (o+(((((m_:Int)+1)%(n:Int))).toNat)) 1] [((o*2+(((((m_:Int)+1)%(n:Int))).toNat)*2)+1)=(o+(((((m_:Int)+1)%(n:Int))).toNat))*2+1/\(o+(((((m_:Int)+1)%(n:Int))).toNat))<N,(o*2+(((((m_:Int)+1)%(n:Int))).toNat)*2)=(o+(((((m_:Int)+1)%(n:Int))).toNat))*2+0/\(o+(((((m_:Int)+1)%(n:Int))).toNat))<N,((o*2+m_*2)+1)=(o+m_)*2+1/\(o+m_)<N,(o*2+m_*2)=(o+m_)*2+0/\(o+m_)<N,(((m_:Int)+1)%(n:Int))=((((((m_:Int)+1)%(n:Int))).toNat:Nat):Int)/\((((m_:Int)+1)%(n:Int))).toNat<n,(m_:Int)=((m_:Nat):Int)/\m_<n]<|aae 8 (QP [] (IV (full.getD (o+m_) ⟨0,0⟩) (full.getD (o+(((((m_:Int)+1)%(n:Int))).toNat)) ⟨0,0⟩)) ?_);rintro _ m10 rfl;refine afZ [9]<|QQ 6<|aah (uG (full.getD (o+m_) ⟨0,0⟩) (full.getD (o+(((((m_:Int)+1)%(n:Int))).toNat)) ⟨0,0⟩) (⟨0,0⟩:V2) (qw:=m10+1) (qv:=m10+0) (ay 0) (ay 1))<|OG 3<|aal (uF (full.getD (o+m_) ⟨0,0⟩) (full.getD (o+(((((m_:Int)+1)%(n:Int))).toNat)) ⟨0,0⟩) (⟨0,0⟩:V2)<=0) 25 (λ Ve=>?_) λ Ve=>?_
  ·refine Sr 6 [.o 2]<|RN.rr m_ [2,3] [] ?_
   try dsimp only
   exact⟨rfl,λ Zs=>(Zs m_ ZU).1 Ve⟩
  ·refine Sr 11 [.o 3]<|aan (σ:=Nat) (λ k=>⟨[(2,vP (n1+1) 0),(3,vI (m_:Int)),(4,vI (((m_:Int)+1)%(n:Int))),(5,.func (.func 203) #[] #[vP (m10+1) 0,vP (m10+0) 0]),(26,vS b (o*2) n cap),(27,vI (n:Int)),(28,vI (k:Int))],[((m10+1),.lit [vI ((full.getD (o+(((((m_:Int)+1)%(n:Int))).toNat)) ⟨0,0⟩).x),vI ((full.getD (o+(((((m_:Int)+1)%(n:Int))).toNat)) ⟨0,0⟩).y)] 30 (0,0)),((m10+0),.lit [vI ((full.getD (o+m_) ⟨0,0⟩).x),vI ((full.getD (o+m_) ⟨0,0⟩).y)] 30 (0,0)),((n1+1),.lit [.bool false] 4 (0,0)),((n1+0),.lit [vS b (o*2) n cap] 69 (0,0))],[],k<=n/\∀t,t<k->¬ (t:Int)=(m_:Int)->¬ (t:Int)=yJ n m_->¬ uF (full.getD (o+m_) ⟨0,0⟩) (full.getD (o+(yJ n m_).toNat) ⟨0,0⟩) (full.getD (o+t) ⟨0,0⟩)<=0,n-k⟩) 0 [0,1,2,3] [] (⟨aaJ _,λ t ht=>absurd ht (ot _)⟩) ?_;rintro k ⟨hkl,Vb⟩ abl;refine OG 6<|aal ((k:Int)<(n:Int)) 29 (λ XI=>?_) λ XI=>?_
   ·refine ah 21 [.ix k,.rorow 1 (o+k) 0,.rorow 1 (o+k) 1,.o 0,.o 0] [((o*2+k*2)+1)=(o+k)*2+1/\(o+k)<N,(o*2+k*2)=(o+k)*2+0/\(o+k)<N,(k:Int)=((k:Nat):Int)/\k<n] λ n15=>aam ((k:Int)=(m_:Int)) 36 (λ Wu=>?_) λ Wu=>?_
    ·refine ah 20 [.nw] [aX ((k:Int)+1)] λ _=>abl (k+1) [1,2,3,4] [] ?_
     try dsimp only
     refine⟨⟨by omega,λ t ht Zv XJ=>?_⟩,by omega⟩;rcases aa9 t k with h_|h_
     ·exact Vb t h_ Zv XJ
     ·obtain rfl:t=k:=by omega
      exact absurd Wu Zv
    ·refine OG 5<|aam ((k:Int)=(((m_:Int)+1)%(n:Int))) 41 (λ h17=>?_) λ h17=>?_
     ·refine ah 15 [.nw] [aX ((k:Int)+1)] λ _=>abl (k+1) [1,2,3,4] [] ?_
      try dsimp only
      refine⟨⟨by omega,λ t ht Zv XJ=>?_⟩,by omega⟩;rcases aa9 t k with h_|h_
      ·exact Vb t h_ Zv XJ
      ·obtain rfl:t=k:=by omega
       exact absurd h17 XJ
     ·refine Sr 2 (aab 2)<|aah (uG (full.getD (o+m_) ⟨0,0⟩) (full.getD (o+(((((m_:Int)+1)%(n:Int))).toNat)) ⟨0,0⟩) (full.getD (o+k) ⟨0,0⟩) (qw:=m10+1) (qv:=m10+0) (ay 1) (ay 2))<|OG 4<|aal (uF (full.getD (o+m_) ⟨0,0⟩) (full.getD (o+(((((m_:Int)+1)%(n:Int))).toNat)) ⟨0,0⟩) (full.getD (o+k) ⟨0,0⟩)<=0) 46 (λ h18=>?_) λ h18=>?_
      ·refine Sr 6 [.o 3]<|RN.rr m_ [3,4] [] ?_
       try dsimp only
       refine⟨rfl,λ Zs=>?_⟩;exact(Zs m_ ZU).2 k (by omega) Wu h17 h18
      ·refine ah 8 [.nw] [aX ((k:Int)+1)] λ _=>abl (k+1) [1,2,3,4] [] ?_
       try dsimp only
       refine⟨⟨by omega,λ t ht Zv XJ=>?_⟩,by omega⟩;rcases aa9 t k with h_|h_
       ·exact Vb t h_ Zv XJ
       ·obtain rfl:t=k:=by omega
        exact h18
   ·refine OG 6<|RN.rn (m_+1) [2,3] [] ?_
    try dsimp only
    refine⟨rfl,λ t ht=>?_⟩;rcases aa9 t m_ with h_|h_
    ·exact iF t h_
    ·obtain rfl:t=m_:=by omega
     exact⟨Ve,λ s_ IT=>Vb s_ (by omega)⟩
 ·rintro d19 m_ V7;obtain⟨rfl,iF⟩:=V7;refine Sr 7 [.o 1]<|RN.retM [d19] [0] [.o 0] [] [] (v:=.bool true) (H':=[]) ⟨by rw[abw (show qm (λ k_=>full.getD (o+k_) ⟨0,0⟩) n from λ t ht=>iF t (by rw[r9];exact ht))],rfl⟩
 ·rintro d20 c_ m_ ⟨rfl,VJ⟩;refine RN.retM [d20] [0] [.o 0] [] [] (v:=.bool false) (H':=[]) ⟨by rw[abv VJ],rfl⟩
end Go.Proofs.YtjokannbjmndfaaGreatDoor
