import Derived.Test.YtjokannbjmndfaaGreatDoorZ32
import Derived.Test.YtjokannbjmndfaaGreatDoorZ07
import Derived.Test.YtjokannbjmndfaaGreatDoorZ18
import Derived.Test.YtjokannbjmndfaaGreatDoorZ08
set_option linter.all false
set_option maxHeartbeats 4000000
set_option maxRecDepth 100000
namespace Go.Proofs.YtjokannbjmndfaaGreatDoor
open Go.RowKit
variable {A:Option Addr} {F Hl T:HL} {M N:MemS} {P:Program} {cap i j k k2 m mb n n0 sz:Nat} {es:List (Int×Int)} {xs:List Inp} {xss:List (List Inp)} {α:Type} (g:Gm)
structure Rw where (A:Option Addr) (n c:Nat)
def kG:Enc Rw:=⟨1,λ p k=>match k with|0=>.slice p.A p.n p.c|_=>default,⟨none,0,0⟩⟩
noncomputable def Sb:TypeInfo:=match Tryz.prog.info? 57 with | some i=>i | none=>⟨.bool,"",0,0,false,0,0,none,false,#[]⟩
noncomputable def Sc:Value:=match Sb.zero with|some z=>z|none=>.bool false
theorem J5:EncOk kG Tryz.prog 57 Sb Sc where
 info:=by kernel_rfl
 zero:=by kernel_rfl
 size:=by kernel_rfl
 zsize:=by kernel_rfl
 zcell:=λ k hk=>by
  have h:∀k<1,Sc.cells[k]?=some (kG.cell kG.dflt k):=by intro k hk;(iterate 1 (rcases k with _|k;· kernel_rfl));omega
  exact h k hk
 one:=λ x k=>by unfold kG;dsimp only;split <;> rfl
 bytes:=aaH (by kernel_rfl)
inductive RwIn(F:HL)(xs:List Inp):Rw->Prop
 |mk (b o N:Nat) (full:List Inp) (c:Nat) (hI:(b,.rows 3 N (jM full) 106 (0,0))∈F) (hir:o+xs.length<=N) (hx:∀k,k<xs.length->full.getD (o+k) dI=xs.getD k dI) (hcap:xs.length<=c):RwIn F xs ⟨some ⟨b,o*3,none⟩,xs.length,c⟩
structure RwsIn(F:HL)(rs:List Rw)(xss:List (List Inp)):Prop where
 len:rs.length=xss.length
 row:∀k,k<rs.length->RwIn F (xss.getD k []) (rs.getD k kG.dflt)
def RwsT(rs:List Rw)(xss:List (List Inp))(T:HL):Prop:=∀F,(∀x∈T,x∈F)->RwsIn F rs xss
theorem RwsIn.get{rs:List Rw}(h:RwsIn F rs xss)(hk:k<rs.length):∃b o N full c,rs.getD k kG.dflt=⟨some ⟨b,o*3,none⟩,(xss.getD k []).length,c⟩/\(b,.rows 3 N (jM full) 106 (0,0))∈F/\o+(xss.getD k []).length<=N/\(∀i,i<(xss.getD k []).length->full.getD (o+i) dI=(xss.getD k []).getD i dI)/\(xss.getD k []).length<=c:=by
 have h1:=h.row k hk;generalize rs.getD k kG.dflt=p at h1 ⊢;cases h1 with
 |mk b o N full c hI hir hx hc=>exact⟨b,o,N,full,c,rfl,hI,hir,hx,hc⟩
theorem SlIs.rw{c:Nat}(h:SlIs cT 106 xs A c T)(hF:∀x∈T,x∈F)(h1:1<=xs.length)(hn:n=xs.length):RwIn F xs ⟨A,n,c⟩:=by
 subst hn;rcases h with ⟨_,_,rfl,_⟩|⟨b,o,full,rfl,rfl,h2,h3,h4⟩
 ·simp at h1
 ·refine .mk b o (o+c) full c (hF _ (eb.2 rfl)) (by omega) (λ k hk=>?_) h3;have h5:((full.drop o).take xs.length)[k]?=xs[k]?:=by rw[h4]
  rw[abn,if_pos hk,abi] at h5;rw[aaG,aaG,h5]
theorem RwsT.nil:RwsT [] [] []:=λ F _=>⟨rfl,λ k hk=>absurd hk (ot _)⟩
theorem gA(l:List α)(x d:α)(k:Nat):(l++[x]).getD k d=if k<l.length then l.getD k d else if k=l.length then x else d:=by
 rw[aaG,List.getElem?_append];split
 ·rw[aaG]
 ·split
  ·next h=>subst h;simp
  ·rw[abQ (by simp;omega)];rfl
theorem RwsT.snoc{rs:List Rw}{T1:HL}{c:Nat}(h:RwsT rs xss T)(hs:SlIs cT 106 xs A c T1)(h1:1<=xs.length)(hn:n=xs.length):RwsT (rs++[⟨A,n,c⟩]) (xss++[xs]) (T++T1):=λ F hF=>by
 have h2:=h F λ x hx=>hF x (aaB _ hx);refine⟨by simp[h2.len],λ k hk=>?_⟩;rw[gA,gA,<- h2.len]
 by_cases VK:k<rs.length
 ·rw[if_pos VK,if_pos VK];exact h2.row k VK
 ·have:k=rs.length:=by simp at hk;omega
  rw[if_neg VK,if_neg VK,if_pos this,if_pos this];exact hs.rw (λ x hx=>hF x (aaz _ hx)) h1 hn
theorem F3{B:Option Addr} (ca cb:Nat){es:List Eff}(ha:RowL aB 112 F A n es)(hb:RowL aB 112 F B n es)(hn:n<=1000000):af0 20 #[.slice A n ca,.slice B n cb] F (.bool true):=by
 refine QG Tryz.func20<|OG 15<|ci 10 (nt (abw (rfl:(n:Int)=(n:Int))))<|OG 10<|aan (σ:=Nat) (λ k_=>⟨[(0,.slice A n ca),(1,.slice B n cb),(5,vI (k_:Int))],[],[],k_<=n,n-k_⟩) 0 [] [] (aaJ _) ?_;rintro k_ hI1 Ue;refine OG 9<|aal ((k_:Int)<(n:Int)) 14 (λ h3=>?_) λ h3=>?_
 ·refine OG 6<|aak [] []<|afZ [0,1,4,5] ?_;obtain⟨qx4,IN,XK,fx4,acH,WO,VQ,abN,Xj⟩:=ha.at (k:=k_) (by omega);refine fM 17 (congrArg (λ v_=>(.slice v_ n ca:Value)) WO)<|RD.ro (λ _=>(mc VQ mn)) ?_;obtain⟨qx5,oF,U5,fx5,XY,Un,UH,XR,UX⟩:=hb.at (k:=k_) (by omega);refine fM 21 (congrArg (λ v_=>(.slice v_ n cb:Value)) Un)<|RD.ro (λ _=>(mc VQ (mc UH mn)))<|aH [] [2,6,3,7] [.ix k_,.ix k_,.rorow 0 (IN+k_) 0,.rorow 0 (IN+k_) 1,.rorow 0 (IN+k_) 2,.rorow 0 (IN+k_) 3,.rorow 1 (oF+k_) 0,.rorow 1 (oF+k_) 1,.rorow 1 (oF+k_) 2,.rorow 1 (oF+k_) 3] [((oF*4+k_*4)+3)=(oF+k_)*4+3/\(oF+k_)<U5,((oF*4+k_*4)+2)=(oF+k_)*4+2/\(oF+k_)<U5,((oF*4+k_*4)+1)=(oF+k_)*4+1/\(oF+k_)<U5,(oF*4+k_*4)=(oF+k_)*4+0/\(oF+k_)<U5,((IN*4+k_*4)+3)=(IN+k_)*4+3/\(IN+k_)<XK,((IN*4+k_*4)+2)=(IN+k_)*4+2/\(IN+k_)<XK,((IN*4+k_*4)+1)=(IN+k_)*4+1/\(IN+k_)<XK,(IN*4+k_*4)=(IN+k_)*4+0/\(IN+k_)<XK,(k_:Int)=((k_:Nat):Int)/\k_<n,(k_:Int)=((k_:Nat):Int)/\k_<n]<|fM 20 (congrArg (λ v_=>(.agg #[vI v_.t,vI v_.i,vI v_.k,vI v_.v]:Value)) Xj)<|fM 24 (congrArg (λ v_=>(.agg #[vI v_.t,vI v_.i,vI v_.k,vI v_.v]:Value)) UX) ?_;have ab5:(decide ((es.getD k_ aB.dflt).t=(es.getD k_ aB.dflt).t) && (decide ((es.getD k_ aB.dflt).i=(es.getD k_ aB.dflt).i) && (decide ((es.getD k_ aB.dflt).k=(es.getD k_ aB.dflt).k) && (decide ((es.getD k_ aB.dflt).v=(es.getD k_ aB.dflt).v) && true))))=true:=by simp
  refine af [] [8] [.sq]<|QQ 1<|ci 25 (nt ab5)<|ah 9 [.nw] [aX ((k_:Int)+1)] λ _=>Ue (k_+1) [] [] ?_
  try dsimp only
  exact⟨by omega,by omega⟩
 ·refine ae 11 [] λ _=>QJ _ _ ⟨rfl,rfl⟩
theorem J6(g:Gm):∀ (f:Nat) (M:MemS),yr g f M<=f
 |0,_=>aaI _
 |f+1,M=>by
  rw[yr];split
  ·omega
  ·have:=J6 g f (jg g M);omega
theorem wN(M:MemS):(l7 g M).length<=1001:=by
 have h1:=us g (yr g 1000 M+1) M;have h2:=J6 g 1000 M;unfold l7;omega
theorem DJ{g:Gm}(hm:m<=999)(h:dK g (m+1) M):fW g (m+1) M=iK g M/\effsV g (m+1) M=l7 g M:=by
 rw[iK,l7,Ip m 1000 M h (by omega)];exact⟨rfl,rfl⟩
def kH(G:Nat->Gm)(M:MemS):Nat->MemS
 |0=>M
 |k+1=>iK (G k) (kH G M k)
def plE(G:Nat->Gm)(M:MemS):Nat->List Eff
 |0=>[]
 |k+1=>plE G M k++l7 (G k) (kH G M k)
theorem wO(G:Nat->Gm)(M:MemS):∀k,(plE G M k).length<=1001*k
 |0=>aaI _
 |k+1=>by
  have h1:=wO G M k;have h2:=wN (G k) (kH G M k);rw[plE,aaK];omega
abbrev mu(S:Setup)(j:Nat×Int)(xs:List Inp):Gm:=gG S j xs.length xs
abbrev rG(S:Setup)(J:Nat->Nat×Int)(xss:List (List Inp)):Nat->Gm:=λ k=>mu S (J k) (xss.getD k [])
structure TkOk(S:Setup)(j:Nat×Int)(xs:List Inp)(M:MemS):Prop where
 ex:∃m,m<=999/\dK (mu S j xs) (m+1) M
 now:0<=M.get 0
 ok:dq S.players xs.length xs (M.get 0)=0
theorem sO(h:M.cs=N.cs)(i:Int):M.get i=N.get i:=by unfold MemS.get;rw[h]
theorem nA(g:Gm)(l:List (Int×Int))(b:Int):∀ (n:Nat) (M:MemS),dK g n (M.sh l b)↔dK g n M
 |0,_=>Iff.rfl
 |n+1,M=>by rw[dK,dK,Im,jg,jg,wi,bE,nA g l b n];exact Iff.rfl
theorem Ce{g:Gm}(h:M.cs=N.cs)(hg:dK g n M):dK g n N:=by
 rw[<- lC M,nA] at hg;rw[<- lC N,nA,<- h];exact hg
theorem TkOk.cs{S:Setup}{j:Nat×Int}(e:M.cs=N.cs)(h:TkOk S j xs M):TkOk S j xs N:=by
 obtain⟨m,h1,h2⟩:=h.ex;exact⟨⟨m,h1,Ce e h2⟩,by rw[<- sO e];exact h.now,by rw[<- sO e];exact h.ok⟩
theorem oH(M:MemS):(iK g M).base=M.base:=by
 have h:=congrArg MemS.base (congrArg (iK g) (lC M));rw[wj] at h;exact h.symm
theorem vn{cb:Nat}{base:Int}(hm:(mb,.lit [vS cb 0 n n,.slice A m cap,vI base] 164 (0,0))∈F)(hb:0<=base/\base<=1000000000)(hl:m<=100000000):af0 41 #[vP mb 0] F (vI (base+(m:Int))):=by
 have h:=yN hm;rwa [cP (by omega)] at h
theorem Cf(h:MemH mb M k T)(hs:∀x∈T,x∈F)(hb:0<=M.base/\M.base<=1000000000):af0 41 #[vP mb 0] F (vI (M.base+(M.lg.length:Int))):=by
 have h1:=h.len2;have h2:=yO h hs;rwa [cP (by omega)] at h2
theorem NewS.sl0{A':Option Addr}{iD:Nat}{z_:HL}(h:NewS i4 199 ([]:List (Int×Int)) none A' iD z_):SlIs i4 199 [] A' iD z_:=by
 rcases h with ⟨_,rfl,rfl,rfl⟩|⟨b,rfl,rfl,_⟩
 ·exact aas _ _
 ·refine .inr ⟨b,0,List.replicate iD i4.dflt,by simp,?_,by simp,aaJ _,rfl⟩;have:=lr (e:=i4) [] iD;rw[WF] at this;rw[this,abP]
theorem Sp.tl{f:FuncId}{args:Array Value}{H:HL}{R:Value->HL->Prop}(h:Sp P f args H F R):Sp P f args H F (λ u H'=>∃x,H'=ap [] [x]/\R u x):=h.mono λ u H' h=>⟨H',(bm (T:=H')).symm,h⟩
theorem Sd{tx e':TypeId}{a:Addr}{c':Nat}{w:World}(hm:m=0)(hk:P.underlying tx=some (.slice e')):Src P sz tx (.slice (some a) m c') 0 [] w:=by
 subst hm;exact Src.ofSlice w hk a 0 c' [] (by simp) (λ j u h=>by simp at h) (λ u h=>by simp at h)
theorem nB{cb:Nat}{base:Int}(hm:(mb,.lit [vS cb 0 n n,.slice A m cap,vI base] 164 (0,0))∈F)(hb:0<=base/\base<=1000000000)(hl:m<=100000000):af0 70 #[vP mb 0,vI (base+(m:Int))] F (vI 0):=by
 refine QH Tryz.func70 hm<|Sr 18 [.ro 0]<|aal (base+(m:Int)<base) 5 (λ h1=>?_) λ h1=>?_
 ·(exfalso;omega)
 ·refine OG 5<|aah (vn (aC hm) hb hl)<|OG 4<|aal (base+(m:Int)>base+(m:Int)) 12 (λ h2=>?_) λ h2=>?_
  ·(exfalso;omega)
  ·refine ae 9 [] λ _=>QJ _ _ ⟨rfl,rfl⟩
theorem J7(mb cb:Nat)(M:MemS)(F:HL)(hb:0<=M.base/\M.base<=1000000000)(hc:M.cs.length<=1000000)(hk:k<=100000000):af1 40 #[vP mb 0,vI (M.base+((0:Nat):Int))] [(mb,.lit [vS cb 0 M.cs.length M.cs.length,.slice none 0 0,vI M.base] 164 (0,0)),(cb,.rows 1 M.cs.length (aY M.cs) 3 (0,0))] F (λ u H'=>u=vI 0/\MemH mb ⟨M.cs,[],M.base+((0:Nat):Int)⟩ k H'):=by
 refine rx Tryz.func40 mn [(mb,.lit [vS cb 0 M.cs.length M.cs.length,.slice none 0 0,vI M.base] 164 (0,0)),(cb,.rows 1 M.cs.length (aY M.cs) 3 (0,0))] []<|OG 10<|aah (nB (mb:=mb) (cb:=cb) (n:=M.cs.length) (A:=none) (m:=0) (cap:=0) (ay 0) hb (by omega))<|ah 40 [.o 0,.nw,.o 0,.o 0] [aX ((M.base+((0:Nat):Int))-M.base)] λ _=>aw 28 (congrArg (λ v_=>(vI v_:Value)) (show (M.base+((0:Nat):Int))-M.base=0 by omega))<|Sr 18 (aab 2)<|aal (0<(M.base+((0:Nat):Int))-M.base) 38 (λ h1=>?_) λ h1=>?_
 ·(exfalso;omega)
 ·refine OG 8<|QI [] [0,1] [] (vI 0) (ap [(mb,.lit [vS cb 0 M.cs.length M.cs.length,.slice none 0 0,vI (M.base+((0:Nat):Int))] 164 (0,0)),(cb,.rows 1 M.cs.length (aY M.cs) 3 (0,0))] []) ⟨rfl,?_⟩;have h_:=MemH.mk (mb:=mb) (M:=⟨M.cs,[],M.base+((0:Nat):Int)⟩) (k:=k) cb none 0 ([]) (aas _ _) hc (by simp;omega);simpa [ap] using h_
theorem J8(mb cb:Nat) (b o cap:Nat)(M:MemS)(full:List (Int×Int))(F:HL)(hb:0<=M.base/\M.base<=1000000000)(hc:M.cs.length<=1000000)(hk:k<=100000000)(hf:full.length=o+cap)(hn:M.lg.length=cap)(hl:M.lg.length<=100000000):af1 40 #[vP mb 0,vI (M.base+(M.lg.length:Int))] [(mb,.lit [vS cb 0 M.cs.length M.cs.length,vS b (o*2) M.lg.length cap,vI M.base] 164 (0,0)),(cb,.rows 1 M.cs.length (aY M.cs) 3 (0,0)),(b,.rows 2 (o+cap) (aD i4 full) 199 (0,0))] F (λ u H'=>u=vI 0/\MemH mb ⟨M.cs,[],M.base+(M.lg.length:Int)⟩ k H'):=by
 refine rx Tryz.func40 mn [(mb,.lit [vS cb 0 M.cs.length M.cs.length,vS b (o*2) M.lg.length cap,vI M.base] 164 (0,0)),(cb,.rows 1 M.cs.length (aY M.cs) 3 (0,0)),(b,.rows 2 (o+cap) (aD i4 full) 199 (0,0))] []<|OG 10<|aah (nB (mb:=mb) (cb:=cb) (n:=M.cs.length) (A:=some ⟨b,o*2,none⟩) (m:=M.lg.length) (cap:=cap) (ay 0) hb (by omega))<|ah 40 [.o 0,.nw,.o 0,.o 0] [aX ((M.base+(M.lg.length:Int))-M.base)] λ _=>aw 28 (congrArg (λ v_=>(vI v_:Value)) (show (M.base+(M.lg.length:Int))-M.base=(M.lg.length:Int) by omega))<|ah 18 [.sl M.lg.length M.lg.length true,.o 0,.o 0] [(M.lg.length:Int)=((M.lg.length:Nat):Int)/\M.lg.length=M.lg.length/\M.lg.length<=M.lg.length/\M.lg.length<=cap/\cap=M.lg.length] λ _=>aal ((((M.lg.length-M.lg.length):Nat):Int)<(M.base+(M.lg.length:Int))-M.base) 38 (λ h1=>?_) λ h1=>?_
 ·refine Sr 7 [.o 0]<|aao<|gD (A:=none) (B:=(some ⟨b,o*2,none⟩)) (c':=(cap-M.lg.length)) rE ([]:List (Int×Int)) 0 (λ a_ e_=>by cases e_) (m:=(M.lg.length-M.lg.length)) (tx:=162) (by simp) (by simp) (λ e_ he X w hR=>Sd (by simp) he) ?_;rintro A2 c3 T4 U8;refine Sr 10 [.o 0]<|QI [] [0,1] [0] (vI 0) (ap [(mb,.lit [vS cb 0 M.cs.length M.cs.length,.slice A2 0 c3,vI (M.base+(M.lg.length:Int))] 164 (0,0)),(cb,.rows 1 M.cs.length (aY M.cs) 3 (0,0))] [T4]) ⟨rfl,?_⟩;have h_:=MemH.mk (mb:=mb) (M:=⟨M.cs,[],M.base+(M.lg.length:Int)⟩) (k:=k) cb A2 c3 T4 U8.sl0 hc (by simp;omega);exact h_
 ·refine OG 8<|QI [] [0,1,2] [] (vI 0) (ap [(mb,.lit [vS cb 0 M.cs.length M.cs.length,vS b (o*2) (M.lg.length-M.lg.length) (cap-M.lg.length),vI (M.base+(M.lg.length:Int))] 164 (0,0)),(cb,.rows 1 M.cs.length (aY M.cs) 3 (0,0)),(b,.rows 2 (o+cap) (aD i4 full) 199 (0,0))] []) ⟨rfl,?_⟩;rw[aeM];have h_:=MemH.mk (mb:=mb) (M:=⟨M.cs,[],M.base+(M.lg.length:Int)⟩) (k:=k) cb (some ⟨b,o*2,none⟩) (cap-M.lg.length) ([(b,.rows 2 (o+cap) (aD i4 full) 199 (0,0))]) (.inr ⟨b,o,full,rfl,by rw[show o+(cap-M.lg.length)=o+cap by omega];rfl,by omega,aaJ _,rfl⟩) hc (by simp;omega);simpa [ap] using h_
theorem J9(mb cb:Nat) (b o:Nat)(M:MemS)(full:List (Int×Int))(F:HL)(hb:0<=M.base/\M.base<=1000000000)(hc:M.cs.length<=1000000)(hk:k<=100000000)(hf:full.length=o+cap)(hn:M.lg.length<cap)(hl:M.lg.length<=100000000):af1 40 #[vP mb 0,vI (M.base+(M.lg.length:Int))] [(mb,.lit [vS cb 0 M.cs.length M.cs.length,vS b (o*2) M.lg.length cap,vI M.base] 164 (0,0)),(cb,.rows 1 M.cs.length (aY M.cs) 3 (0,0)),(b,.rows 2 (o+cap) (aD i4 full) 199 (0,0))] F (λ u H'=>u=vI 0/\MemH mb ⟨M.cs,[],M.base+(M.lg.length:Int)⟩ k H'):=by
 refine rx Tryz.func40 mn [(mb,.lit [vS cb 0 M.cs.length M.cs.length,vS b (o*2) M.lg.length cap,vI M.base] 164 (0,0)),(cb,.rows 1 M.cs.length (aY M.cs) 3 (0,0)),(b,.rows 2 (o+cap) (aD i4 full) 199 (0,0))] []<|OG 10<|aah (nB (mb:=mb) (cb:=cb) (n:=M.cs.length) (A:=some ⟨b,o*2,none⟩) (m:=M.lg.length) (cap:=cap) (ay 0) hb (by omega))<|ah 40 [.o 0,.nw,.o 0,.o 0] [aX ((M.base+(M.lg.length:Int))-M.base)] λ _=>aw 28 (congrArg (λ v_=>(vI v_:Value)) (show (M.base+(M.lg.length:Int))-M.base=(M.lg.length:Int) by omega))<|ah 18 [.sl M.lg.length M.lg.length false,.o 0,.o 0] [(M.lg.length:Int)=((M.lg.length:Nat):Int)/\M.lg.length=M.lg.length/\M.lg.length<=M.lg.length/\M.lg.length<=cap/\cap≠M.lg.length] λ _=>aal ((((M.lg.length-M.lg.length):Nat):Int)<(M.base+(M.lg.length:Int))-M.base) 38 (λ h1=>?_) λ h1=>?_
 ·refine Sr 7 [.o 0]<|aao<|gD (A:=none) (B:=(some ⟨b,(o*2+M.lg.length*2),none⟩)) (c':=(cap-M.lg.length)) rE ([]:List (Int×Int)) 0 (λ a_ e_=>by cases e_) (m:=(M.lg.length-M.lg.length)) (tx:=162) (by simp) (by simp) (λ e_ he X w hR=>Sd (by simp) he) ?_;rintro A2 c3 T4 U8;refine Sr 10 [.o 0]<|QI [] [0,1] [0] (vI 0) (ap [(mb,.lit [vS cb 0 M.cs.length M.cs.length,.slice A2 0 c3,vI (M.base+(M.lg.length:Int))] 164 (0,0)),(cb,.rows 1 M.cs.length (aY M.cs) 3 (0,0))] [T4]) ⟨rfl,?_⟩;have h_:=MemH.mk (mb:=mb) (M:=⟨M.cs,[],M.base+(M.lg.length:Int)⟩) (k:=k) cb A2 c3 T4 U8.sl0 hc (by simp;omega);exact h_
 ·refine OG 8<|QI [] [0,1,2] [] (vI 0) (ap [(mb,.lit [vS cb 0 M.cs.length M.cs.length,vS b (o*2+M.lg.length*2) (M.lg.length-M.lg.length) (cap-M.lg.length),vI (M.base+(M.lg.length:Int))] 164 (0,0)),(cb,.rows 1 M.cs.length (aY M.cs) 3 (0,0)),(b,.rows 2 (o+cap) (aD i4 full) 199 (0,0))] []) ⟨rfl,?_⟩;rw[aeM];have h_:=MemH.mk (mb:=mb) (M:=⟨M.cs,[],M.base+(M.lg.length:Int)⟩) (k:=k) cb (some ⟨b,o*2+M.lg.length*2,none⟩) (cap-M.lg.length) ([(b,.rows 2 (o+cap) (aD i4 full) 199 (0,0))]) (.inr ⟨b,o+M.lg.length,full,by rw[acE];rfl,by rw[show o+M.lg.length+(cap-M.lg.length)=o+cap by omega];rfl,by omega,aaJ _,rfl⟩) hc (by simp;omega);simpa [ap] using h_
theorem Ka(h:MemH mb M k T)(hb:0<=M.base/\M.base<=1000000000)(hk:k2<=100000000):af1 40 #[vP mb 0,vI (M.base+(M.lg.length:Int))] (ap [] [T]) F (λ u H'=>∃x,H'=ap [] [x]/\(u=vI 0/\MemH mb ⟨M.cs,[],M.base+(M.lg.length:Int)⟩ k2 x)):=by
 rw[bm];cases h with
 |mk cb A cap Hl hs hc hl=>
  rcases hs with ⟨rfl,rfl,h1,rfl⟩|⟨b,o,full,rfl,rfl,h1,h2,h3⟩
  ·have e:M.lg.length=0:=by rw[h1];rfl
   rw[e];have key:=J7 mb cb M F hb hc hk;exact key.tl
  ·rcases aa9 M.lg.length cap with h4|h4
   ·have key:=J9 mb cb b o M full F hb hc hk h1 h4 (by omega);exact key.tl
   ·have key:=J8 mb cb b o cap M full F hb hc hk h1 (by omega) (by omega);exact key.tl
open Go.Shelf
section
variable {r:Option Nat} {P:Program} {N:Nat} {D:List Deferred} {F:HL} {w0:World} {R:HL} {s:Cfg} {Q:Exit->Act->World->Prop} {hards:List Nat} {Rd:HL}
theorem RDO.slA{l:Nat}{li:Int}(hl:li=(l:Int))(h1:l<=n)(h2:n<=cap)(hk:RD r P N D F w0 R hards Rd (mH N i (.slice (slA A l sz cap) (n-l) (cap-l)) s) Q)
  (h:Sz P N (eL i s) s=some (A,n,cap,li,sz):=by kernel_rfl) (hx:hards.contains i=false:=by kernel_rfl):RDO r P N D F w0 R hards Rd i s Q:=by
 unfold Sz at h;split at h
 case h_2=>cases h
 rename_i o q0;split at h
 case h_2=>cases h
 rename_i y hv hp;simp only[de] at h;rw[h] at hv;clear h;obtain⟨t,x,lo,elem,inf,q1,q2,q3,q4,q5,q6,q7,q8⟩:=xF hv;obtain⟨c,k,L,Bs,Ts⟩:=s;unfold eL at q0;cases c with
 |code c=>cases q0
 |ex c=>cases q0
 |ops _ _=>cases q0
 |drw ops li2=>
  refine⟨λ hR=>?_⟩;simp only at q0 q3 q5 q6 hp;have Of:∀v L',cD N o.dst v L=some L'->mH N i v ⟨.drw ops li2,k,L,Bs,Ts⟩=⟨.drw ops (aS li2 i true),k,L',Bs,Ts⟩:=by
   intro v L' hl;unfold mH;simp only[q0,hl]
  refine(iZ (Q:=Q) (by simpa using q0) (σ:=Unit) (λ u _=>u=.slice (slA A l sz cap) (n-l) (cap-l)) (λ _=>ap Bs Ts) hp (λ a hF=>⟨by simp[Region.wanted,q1],λ w aT hB=>?_⟩) (λ _=>⟨λ _=>⟨[],rfl⟩,λ hi=>?_⟩) ?_:RDO r P N D F w0 R hards Rd i ⟨.drw ops li2,k,L,Bs,Ts⟩ Q).h hR
  ·simp only[abc] at q3;have e1:=(hF.eval q3.1).trans q5;have e2:=(hF.eval q3.2).trans q6;have k1:=iQ (P:=P) (ρ:=a.eval) (lo:=some lo) (hi:=none) (l:=l) (h:=n) (len:=n) (cap:=cap) (by show Ea _ _ _ _;unfold Ea;simp only[e2];exact hl) rfl h1 h2 w;have k2:=λ W=>cL q7 W;have k3:=λ W=>aE q4 W;unfold b9;have he:(execOp a.eval o).run P w=.ok (.value (.slice (slA A l sz cap) (n-l) (cap-l))) w:=by
    rw[show Option.map a.eval none=none from rfl,show Option.map a.eval (some lo)=some (a.eval lo) from rfl] at k1;simp[execOp,q2,Instr.sliceAt,Instr.slice,e1,k3,Go.sizeOf,k2,abg,k1,slA,q8]
   rw[he];exact⟨(),rfl,aT,jt _ _⟩
  ·have h3:hards.contains i=true:=abI.2 hi;rw[hx] at h3;cases h3
  ·rintro u _ rfl L' Uy hs;have h3:=hk.h hR;rw[Of _ L' Uy] at h3;exact h3 hs
end
theorem zK{cb:Nat}{base:Int} (mk:Int)(hm:(mb,.lit [vS cb 0 n n,.slice A m cap,vI base] 164 (0,0))∈F)(hb:0<=base/\base<=1000000000)(hl:m<=100000000)(h1:base<=mk)(h2:mk<=base+(m:Int)):af0 70 #[vP mb 0,vI mk] F (vI 0):=by
 refine QH Tryz.func70 hm<|Sr 18 [.ro 0]<|aal (mk<base) 5 (λ h1=>?_) λ h1=>?_
 ·(exfalso;omega)
 ·refine OG 5<|aah (vn (aC hm) hb hl)<|OG 4<|aal (mk>base+(m:Int)) 12 (λ h2=>?_) λ h2=>?_
  ·(exfalso;omega)
  ·refine ae 9 [] λ _=>QJ _ _ ⟨rfl,rfl⟩
abbrev Se(x:Nat×Int×Int):Array Value:=#[vI (x.1:Int),.agg #[vI x.2.1,vI x.2.2]]
def Lz(es:List (Int×Int)):List (Nat×Int×Int):=(List.range es.length).map λ k=>(es.length-1-k,es.getD (es.length-1-k) (0,0))
theorem wP(es:List (Int×Int)):(Lz es).length=es.length:=by simp[Lz]
theorem DL(h:k<es.length):(Lz es)[k]?=some (es.length-1-k,es.getD (es.length-1-k) (0,0)):=by simp[Lz,h]
theorem Kb{x:Nat×Int×Int}(e:(Lz es)[i]?=some x):i<es.length/\x=(es.length-1-i,es.getD (es.length-1-i) (0,0)):=by
 have h1:i<es.length:=by have:=(bt.1 e).1;rwa [wP] at this
 rw[DL h1] at e;exact⟨h1,(ab8 e).symm⟩
def mG(cs:List Int)(es:List (Int×Int))(j:Nat):List Int:=gO cs (es.drop (es.length-j))
theorem oI(cs:List Int):∀es:List (Int×Int),(gO cs es).length=cs.length
 | []=>rfl
 |e::es=>by
  show ((gO cs es).set _ _).length=_;rw[ack,oI cs es]
theorem F4(cs:List Int)(es:List (Int×Int)):mG cs es 0=cs:=by unfold mG;rw[afB,afX];rfl
theorem Kd(cs:List Int)(es:List (Int×Int)):mG cs es es.length=gO cs es:=by unfold mG;rw[aeM];rfl
theorem F5{cs:List Int}(h:j<es.length):mG cs es (j+1)=(mG cs es j).set (es.getD (es.length-1-j) (0,0)).1.toNat (es.getD (es.length-1-j) (0,0)).2:=by
 have iN:es.length-1-j<es.length:=by omega
 unfold mG;rw[show es.length-(j+1)=es.length-1-j by omega,eB iN,show es.length-1-j+1=es.length-j by omega,aaG,aa1 iN];rfl
theorem SlIs.capLe{e:Enc α}{T:TypeId}{l:List α}(h:SlIs e T l A cap Hl):l.length<=cap:=by
 rcases h with ⟨_,rfl,rfl,_⟩|⟨b,o,full,_,_,h1,h2,h3⟩
 ·exact aaI _
 ·exact h2
theorem iI{l:List α}(h:i<l.length)(d:α):l.getD i d∈l:=by
 rw[aaG,aa1 h];exact ac0 h
theorem SlIs.take{e:Enc α}{T:TypeId}{l:List α}(h:SlIs e T l A cap Hl)(k:Nat):SlIs e T (l.take k) A cap Hl:=by
 rcases h with ⟨rfl,rfl,rfl,rfl⟩|⟨b,o,full,h1,h2,h3,h4,h5⟩
 ·rw[List.take_nil];exact aas _ _
 ·refine .inr ⟨b,o,full,h1,h2,h3,by rw[aaN];omega,?_⟩;rw[aaN]
  conv=>rhs;rw[<- h5]
  rw[adi]
theorem Ke{cs:List Int}{a b:Int}(h:j<es.length)(e:(a,b)=es.getD (es.length-1-j) (0,0))(h2:a.toNat<cs.length):db (aY (mG cs es j)) a.toNat 0 (vI b)=aY (mG cs es (j+1)):=by
 rw[fS (by unfold mG;rw[oI];exact h2),F5 h,<- e]
theorem Kf{c q:Nat} (lp:Nat)(X:HL){J:Nat->HL->Prop}(Jx:HL->Prop){T0:HL}(hn:es.length<=100000000)(hl:RowL i4 199 F A es.length es)(hq:(q,.lit [.slice A es.length c] 162 (0,0))∈F)(hY:∀i x H Y,(Lz es)[i]?=some x->J i H->YL Tryz.prog lp (Se x) H (Y++(X++F)) (λ b H'=>(b=true/\J (i+1) H')\/(b=false/\Jx H')))(W6:J 0 T0):af1 128 #[.func (.yield lp) #[] #[],vP q 0] (ap [] [T0]) (X++F) (λ _ H'=>J (Lz es).length H'\/Jx H'):=by
 refine QF Tryz.func128 (mc (aaz _ hq) mn)<|ah 9 [.ro 0,.nw] [aX ((es.length:Int)-1)] λ _=>aw 3 (congrArg (λ v_=>(vI v_:Value)) (show (es.length:Int)-1=(es.length:Int)-1-((0:Nat):Int) by omega))<|aan (σ:=Nat×HL) (λ ⟨k,T_⟩=>⟨[(0,.func (.yield lp) #[] #[]),(1,vP q 0),(3,vI ((es.length:Int)-1-(k:Int)))],[],[T_],k<=es.length/\J k T_,es.length-k⟩) (0,T0) [] [0] (⟨aaJ _,W6⟩) ?_;rintro⟨k,T_⟩ ⟨XB,U1⟩ Ue;refine OG 7<|aal ((es.length:Int)-1-(k:Int)>=0) 8 (λ h3=>?_) λ h3=>?_
 ·refine ae 11 [.ro 0] λ _=>?_;obtain⟨qx4,IN,XK,fx4,acH,WO,VQ,abN,Xj⟩:=(hl.up (X:=X)).at (k:=(es.length-1-k)) (by omega);refine aw 13 (congrArg (λ v_=>(.slice v_ es.length c:Value)) WO)<|RN.ro (λ _=>(mc (aaz _ hq) (mc VQ mn)))<|ah 2 [.ix (es.length-1-k),.rorow 1 (IN+(es.length-1-k)) 0,.rorow 1 (IN+(es.length-1-k)) 1] [((IN*2+(es.length-1-k)*2)+1)=(IN+(es.length-1-k))*2+1/\(IN+(es.length-1-k))<XK,(IN*2+(es.length-1-k)*2)=(IN+(es.length-1-k))*2+0/\(IN+(es.length-1-k))<XK,(es.length:Int)-1-(k:Int)=(((es.length-1-k):Nat):Int)/\(es.length-1-k)<es.length] λ _=>aw 16 (congrArg (λ v_=>(.agg #[vI v_.1,vI v_.2]:Value)) Xj)<|aw 12 (congrArg (λ v_=>(vI v_:Value)) (show (es.length:Int)-1-(k:Int)=((es.length-1-k:Nat):Int) by omega))<|aar 0 (hY k (es.length-1-k,es.getD (es.length-1-k) (0,0)) _ _ (DL (by omega)) U1) ?_;rintro b_ T5 (⟨rfl,hJ6⟩|⟨rfl,hJ6⟩)
  ·refine ah 12 [.gen,.nw] [aX (((es.length:Int)-1-(k:Int))-1)] λ _=>aw 3 (congrArg (λ v_=>(vI v_:Value)) (show ((es.length:Int)-1-(k:Int))-1=(es.length:Int)-1-((k+1:Nat):Int) by omega))<|Ue (k+1,T5) [] [0] ?_
   try dsimp only
   exact⟨⟨by omega,hJ6⟩,by omega⟩
  ·refine OG 4<|QI [] [] [0] (.tuple #[]) (ap [] [T5]) ?_;rw[bm];exact .inr hJ6
 ·refine OG 5<|QI [] [] [0] (.tuple #[]) (ap [] [T_]) ?_;rw[bm];obtain rfl:k=es.length:=by omega
  exact .inl (by rw[wP];exact U1)
theorem M4{c q:Nat}(hn:es.length<=100000000)(e:es.length=n)(hl:RowL i4 199 F A n es)(hq:(q,.lit [.slice A n c] 162 (0,0))∈F):It Tryz.prog 128 #[vP q 0] F Se (Lz es):=by
 subst e;intro X l J Jx H0 hY h0;have key:=Kf l X Jx hn hl hq hY h0;rw[bm] at key;exact key
theorem Kg(A:Option Addr)(m c:Nat):af1 101 #[.slice A m c] (ap [] []) F (λ u H'=>∃n:Nat,H'=ap [((n+0),.lit [.slice A m c] 162 (0,0))] []/\u=.func (.func 128) #[] #[vP (n+0) 0]):=by
 refine QG Tryz.func101<|ae 12 [] λ n1=>QI [] [0] [] (.func (.func 128) #[] #[vP (n1+0) 0]) (ap [((n1+0),.lit [.slice A m c] 162 (0,0))] []) ⟨_,rfl,rfl⟩
theorem Kh(mb cb:Nat) (k:Nat)(M:MemS) (F:HL)(hs:SlIs i4 199 M.lg A cap Hl)(hc:M.cs.length<=1000000)(hl:M.lg.length+k<=100000000)(hb:0<=M.base/\M.base<=1000000000)(Vk:n0<=M.lg.length)(UA:∀e∈(M.lg.drop n0),0<=e.1/\e.1<(M.cs.length:Int)):af1 68 #[vP mb 0,vI (M.base+(n0:Int))] (ap [(mb,.lit [vS cb 0 M.cs.length M.cs.length,.slice A M.lg.length cap,vI M.base] 164 (0,0)),(cb,.rows 1 M.cs.length (aY M.cs) 3 (0,0))] [Hl]) F (λ u H'=>u=vI 0/\MemH mb ⟨gO M.cs (M.lg.drop n0),M.lg.take n0,M.base⟩ k H'):=by
 have aca:M.lg.length<=cap:=hs.capLe;refine Sp.runM Tryz.func68 rfl mn (A:=[(mb,.lit [vS cb 0 M.cs.length M.cs.length,.slice A M.lg.length cap,vI M.base] 164 (0,0)),(cb,.rows 1 M.cs.length (aY M.cs) 3 (0,0))]) (Ts:=[Hl]) rfl λ w0=>ae 11 [.o 0] λ n1=>aah (zK (mb:=mb) (cb:=cb) (n:=M.cs.length) (A:=A) (m:=M.lg.length) (cap:=cap) (M.base+(n0:Int)) (ay 1) hb (by omega) (by omega) (by omega))<|ah 25 [.o 0,.o 1,.nw] [aX ((M.base+(n0:Int))-M.base)] λ _=>aw 6 (congrArg (λ v_=>(vI v_:Value)) (show M.base+(n0:Int)-M.base=(n0:Int) by omega))<|Sr 6 [.o 0,.o 1]<|RN.slA (A:=A) (n:=M.lg.length) (cap:=cap) (l:=n0) (sz:=2) rfl (by omega) aca<|Ss (Kg (slA A n0 2 cap) (M.lg.length-n0) (cap-n0)) ?_;rintro _ m2 rfl;refine OG 3<|RN.bv 3 (congrArg (λ v_=>(.rows 1 M.cs.length v_ 3 (0,0):Blk)) (show (aY M.cs)=(aY (mG M.cs (M.lg.drop n0) 0)) from (congrArg aY (F4 M.cs (M.lg.drop n0)).symm)))<|RN.range (σ:=Nat) (τ:=Nat×Nat×Int×Int) (encs:=λ (x_:Nat×Int×Int)=>#[vI (x_.1:Int),.agg #[vI x_.2.1,vI x_.2.2]]) (xs:=(Lz (M.lg.drop n0))) (enters_of Tryz.func128 (by kernel_rfl) rfl) (λ m_=>([(cb,.rows 1 M.cs.length (aY (mG M.cs (M.lg.drop n0) m_)) 3 (0,0))],[])) (λ i_ m_=>m_=i_) (λ c_ m_=>False) (λ ⟨m_,p_,a_,b_⟩=>⟨[(2,vP (n1+0) 0),(6,vI (n0:Int)),(8,vP p_ 0)],[(cb,.rows 1 M.cs.length (aY (mG M.cs (M.lg.drop n0) m_)) 3 (0,0)),(p_,.lit [vI a_,vI b_] 199 (0,0))],[],True,0⟩) (λ i_ x_ ⟨m_,p_,a_,b_⟩=>m_=i_/\i_<(M.lg.drop n0).length/\(a_,b_)=(M.lg.drop n0).getD ((M.lg.drop n0).length-1-i_) (0,0)) 0 rfl [3] [] (M4 (es:=M.lg.drop n0) (n:=M.lg.length-n0) (c:=cap-n0) (q:=m2+0) (by rw[aaY];omega) (by rw[aaY]) (hs.drop (ar 0) rfl (by omega)) (ay 0)) ?_ ?_ ?_ ?_
 ·rintro l_ i_ x_ m_ Y3 w4 hx5 rfl Wx;refine ae 4 (aab 2) λ n7=>Wx (m_,(n7+0),x_.2.1,x_.2.2) [1,0] [] ?_
  try dsimp only
  exact⟨rfl,(Kb hx5).1,by rw[(Kb hx5).2]⟩
 ·rintro l_ i_ x_ ⟨m_,p_,a_,b_⟩ Y8 w9 adM ⟨rfl,ahO,YW⟩;have ab4:=UA _ (iI (l:=(M.lg.drop n0)) (i:=(M.lg.drop n0).length-1-m_) (by omega) (0,0));rw[<- YW] at ab4
  replace ab4:0<=a_/\a_<(M.cs.length:Int):=ab4
  refine OG 1<|aak [9] []<|aH [] [0,4,6,1,5,7,2,3,8] [.ro 1,.o 1,.o 1,.ro 2,.ix a_.toNat] [a_=((a_.toNat:Nat):Int)/\a_.toNat<M.cs.length]<|aae 9 (fR [] [.row 0 a_.toNat 0] [(0+a_.toNat*1)=a_.toNat*1+0/\a_.toNat<M.cs.length] λ _=>?_);refine QQ 1<|RN.bv 0 (congrArg (λ v_=>(.rows 1 M.cs.length v_ 3 (0,0):Blk)) (show (db (aY (mG M.cs (M.lg.drop n0) m_)) a_.toNat 0 (vI b_))=(aY (mG M.cs (M.lg.drop n0) (m_+1))) from (Ke ahO YW (by omega))))<|RN.rn (m_+1) [0] [] ?_
  try dsimp only
  first|done|rfl
 ·rintro d11 m_ rfl;refine OG 3<|aak [9] []<|aH [] [0,1,5,2,3,4,6,7,8] [.o 3,.o 3,.o 4,.sl0 n0] [(n0:Int)=((n0:Nat):Int)/\n0<=cap]<|Sx 9 [] [.o 4]<|QQ 6<|RN.retM [d11] [0] [] [3,0] [0] (v:=vI 0) (H':=(ap [(mb,.lit [vS cb 0 M.cs.length M.cs.length,.slice A n0 cap,vI M.base] 164 (0,0)),(cb,.rows 1 M.cs.length (aY (mG M.cs (M.lg.drop n0) (Lz (M.lg.drop n0)).length)) 3 (0,0))] [Hl])) ⟨rfl,?_⟩;rw[wP,Kd];have h_:=MemH.mk (mb:=mb) (M:=⟨gO M.cs (M.lg.drop n0),M.lg.take n0,M.base⟩) (k:=k) cb A cap Hl (hs.take n0) (by show (gO _ _).length<=_;rw[oI];exact hc) (by rw[aaN];omega);have Zv:(gO M.cs (M.lg.drop n0)).length=M.cs.length:=oI _ _;have XJ:(M.lg.take n0).length=n0:=by rw[aaN];omega
  dsimp only at h_;rw[Zv,XJ] at h_;exact h_
 ·exact λ _ _ _ h=>h.elim
theorem Ki(F:HL)(h:MemH mb M k T)(hk:k2<=k)(hb:0<=M.base/\M.base<=1000000000)(Vk:n0<=M.lg.length)(UA:∀e∈(M.lg.drop n0),0<=e.1/\e.1<(M.cs.length:Int)):af1 68 #[vP mb 0,vI (M.base+(n0:Int))] (ap [] [T]) F (λ u H'=>∃x,H'=ap [] [x]/\(u=vI 0/\MemH mb ⟨gO M.cs (M.lg.drop n0),M.lg.take n0,M.base⟩ k2 x)):=by
 rw[bm];cases h with
 |mk cb A cap Hl hs hc hl=>exact(Kh mb cb k2 M F hs hc (by omega) hb Vk UA).tl
end Go.Proofs.YtjokannbjmndfaaGreatDoor
