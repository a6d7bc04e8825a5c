import Derived.Test.YtjokannbjmndfaaGreatDoorZ33
import Derived.Test.YtjokannbjmndfaaGreatDoorZ34
import Derived.Test.YtjokannbjmndfaaGreatDoorZ08
set_option linter.all false
set_option maxHeartbeats 4000000
set_option maxRecDepth 100000
namespace Go.Proofs.YtjokannbjmndfaaGreatDoor
open Go.RowKit
variable {A:Option Addr} {G Hl T:HL} {M:MemS} {S:Setup} {a bp cap gb k k2 m mb n n0 t w:Nat} {ds:List Dr} {ms:List Int} {rs:List Bx} {α ρ:Type} (rb:Nat) (F:HL)
theorem SlIs.dropI{e:Enc α}{T:TypeId}{l:List α}(h:SlIs e T l A cap Hl)(hk:k=0\/k<l.length):SlIs e T (l.drop k) (slA A k e.w cap) (cap-k) Hl:=by
 rcases hk with rfl|hk
 ·have e1:slA A 0 e.w cap=A:=by
   unfold slA;split
   ·rfl
   ·rcases h with ⟨rfl,_⟩|⟨b,o,full,rfl,_⟩
    ·rfl
    ·rw[UV,gH rfl];simp[tu]
  rw[e1];exact h
 ·rcases h with ⟨_,_,rfl,_⟩|⟨b,o,full,rfl,rfl,h1,h2,h3⟩
  ·simp at hk
  ·refine .inr ⟨b,o+k,full,?_,by rw[show o+k+(cap-k)=o+cap by omega],by omega,by rw[aaY];omega,?_⟩
   ·unfold slA;rw[if_neg (by omega),UV,gH rfl];simp[tu,acE]
   ·rw[aaY]
    conv=>rhs;rw[<- h3]
    rw[List.drop_take,adr]
theorem M6(mb cb:Nat) (k:Nat)(M:MemS) (F:HL)(hs:SlIs i4 199 M.lg A cap Hl)(hc:M.cs.length<=1000000)(hl:M.lg.length<=100000000)(hb:0<=M.base/\M.base<=1000000000)(Vk:n0<=M.lg.length)(hk:M.lg.length-n0+k<=100000000):af1 40 #[vP mb 0,vI (M.base+(n0:Int))] (ap [(mb,.lit [vS cb 0 M.cs.length M.cs.length,.slice A M.lg.length cap,vI M.base] 164 (0,0)),(cb,.rows 1 M.cs.length (aY M.cs) 3 (0,0))] [Hl]) F (λ u H'=>u=vI 0/\MemH mb (ig M n0) k H'):=by
 have aca:M.lg.length<=cap:=hs.capLe;refine QF Tryz.func40 mn<|OG 10<|aah (zK (mb:=mb) (cb:=cb) (n:=M.cs.length) (A:=A) (m:=M.lg.length) (cap:=cap) (M.base+(n0:Int)) (ay 0) hb (by omega) (by omega) (by omega))<|ah 24 [.o 0,.nw] [aX ((M.base+(n0:Int))-M.base)] λ _=>aw 6 (congrArg (λ v_=>(vI v_:Value)) (show M.base+(n0:Int)-M.base=(n0:Int) by omega))<|Sr 16 (aab 2)<|RN.slA (A:=A) (n:=M.lg.length) (cap:=cap) (l:=n0) (sz:=2) rfl (by omega) aca<|Sr 17 (aab 2)<|aal ((((M.lg.length-n0):Nat):Int)<(n0:Int)) 38 (λ h1=>?_) λ h1=>?_
 ·refine Sr 7 [.o 0]<|aao<|RN.appU (c':=(cap-n0)) (tx:=162) rE ([]:List (Int×Int)) (M.lg.drop n0) 0 rfl (aas _ _) (by rw[aaY];simp;omega) (RowL.src rE (by decide) (hs.drop (ar 1) rfl Vk)) ?_;rintro A2 c3 T4 ⟨U8,hz6⟩;refine Sr 10 [.o 0]<|QI [] [0,1] [0] (vI 0) (ap [(mb,.lit [vS cb 0 M.cs.length M.cs.length,.slice A2 (0+((M.lg.drop n0)).length) c3,vI (M.base+(n0:Int))] 164 (0,0)),(cb,.rows 1 M.cs.length (aY M.cs) 3 (0,0))] [T4]) ⟨rfl,?_⟩;rw[WF] at U8;have h_:=MemH.mk (mb:=mb) (M:=ig M n0) (k:=k) cb A2 c3 T4 U8 hc (by show (M.lg.drop n0).length+k<=_;rw[aaY];omega);have XJ:(ig M n0).lg.length=0+(M.lg.drop n0).length:=(abP _).symm;rw[XJ] at h_;exact h_
 ·refine OG 8<|QI [] [0,1] [0] (vI 0) (ap [(mb,.lit [vS cb 0 M.cs.length M.cs.length,.slice (slA A n0 2 cap) (M.lg.length-n0) (cap-n0),vI (M.base+(n0:Int))] 164 (0,0)),(cb,.rows 1 M.cs.length (aY M.cs) 3 (0,0))] [Hl]) ⟨rfl,?_⟩;have h_:=MemH.mk (mb:=mb) (M:=ig M n0) (k:=k) cb (slA A n0 2 cap) (cap-n0) Hl (hs.dropI (by omega)) hc (by show (M.lg.drop n0).length+k<=_;rw[aaY];omega);have XJ:(ig M n0).lg.length=M.lg.length-n0:=aaY;rw[XJ] at h_;exact h_
theorem P4{F:HL}(h:MemH mb M k T)(hb:0<=M.base/\M.base<=1000000000)(Vk:n0<=M.lg.length)(hk:k2<=k){v:Int}(hv:v=M.base+(n0:Int)):af1 40 #[vP mb 0,vI v] (ap [] [T]) F (λ u H'=>∃x,H'=ap [] [x]/\(u=vI 0/\MemH mb (ig M n0) k2 x)):=by
 subst hv;rw[bm];cases h with
 |mk cb A cap Hl hs hc hl=>exact(M6 mb cb k2 M F hs hc (by omega) hb Vk (by omega)).tl
theorem Kj{b o wd l:Nat}(h:m≠l):AZ (some ⟨b,o*wd,none⟩) l wd m=some ⟨b,(o+l)*wd,none⟩:=by
 unfold AZ slA;rw[if_neg h,UV,gH rfl];simp[tu,acE]
theorem F6(a:Nat)(l:List Int):(qO a l).drop 1=qO (a+1) (l.drop 1):=by cases l <;> rfl
theorem vq{b:Int}{L:Nat}(hr:∀k∈ms,b<=k/\k<=b+(L:Int)){i:Nat}(hi:i<ms.length+1):b<=(ms++[b+(L:Int)]).getD i 0/\(ms++[b+(L:Int)]).getD i 0<=b+(L:Int):=by
 have hm:=iI (l:=ms++[b+(L:Int)]) (i:=i) (by simpa using hi) 0;rcases np.1 hm with h|h
 ·exact hr _ h
 ·rw[eb] at h;omega
inductive RingH(rb mb w a:Nat)(ms:List Int):HL->Prop
 |mk {A:Option Addr} {cap n:Nat} {Hl:HL} (hs:SlX k9 239 (qO a ms) A cap Hl) (hn:n=ms.length) (h0:ms=[]->A=none/\cap=0/\Hl=[]):RingH rb mb w a ms (ap [(rb,.lit [vP mb 0,vI (w:Int),.slice A n cap] 140 (0,0))] [Hl])
def dZ(w:Nat)(M:MemS)(a:Nat)(ms:List Int)(t:Nat):MemS×Nat×List Int :=
 let mk:=M.base+(M.lg.length:Int)
 let a0:=if ms=[] then t else a
 if w<ms.length+1 then (ig M (((ms++[mk]).getD 1 0)-M.base).toNat,a0+1,(ms++[mk]).drop 1) else (M,a0,ms++[mk])
theorem pQ(M:MemS)(a t:Nat)(h:1<=w):dZ w M a [] t=(M,t,[M.base+(M.lg.length:Int)]):=by
 unfold dZ;dsimp only;rw[if_neg (by simp;omega),if_pos rfl];rfl
theorem Ci(M:MemS)(h:w<ms.length+1)(hn:ms≠[]):dZ w M a ms t=(ig M (((ms++[M.base+(M.lg.length:Int)]).getD 1 0)-M.base).toNat,a+1,(ms++[M.base+(M.lg.length:Int)]).drop 1):=by
 unfold dZ;dsimp only;rw[if_pos h,if_neg hn]
theorem Kk(M:MemS)(h:¬ w<ms.length+1)(hn:ms≠[]):dZ w M a ms t=(M,a,ms++[M.base+(M.lg.length:Int)]):=by
 unfold dZ;dsimp only;rw[if_neg h,if_neg hn]
theorem Kl (cap:Nat) (F:HL)(hM:MemH mb M k T)(hb:0<=M.base/\M.base<=1000000000)(hw:1<=w/\w<=13)(WZ:k2<=k)(ZI:t<=1000000):af1 95 #[vP rb 0,vI (t:Int)] (ap [(rb,.lit [vP mb 0,vI (w:Int),.slice none 0 0] 140 (0,0))] [T]) F (λ u H'=>∃x:HL×HL,H'=ap [] [x.1,x.2]/\(u=vI 0/\RingH rb mb w (dZ w M 0 [] t).2.1 (dZ w M 0 [] t).2.2 x.1/\MemH mb (dZ w M 0 [] t).1 k2 x.2)):=by
 refine QF Tryz.func95 mn<|OG 12<|aal ((t:Int)<0) 7 (λ h1=>?_) λ h1=>?_
 ·(exfalso;omega)
 ·refine Sr 25 [.o 0]<|aak [13,16] []<|af [] [0,1,5,6,2,7,3,8,4,9] (aab 2)<|aac [] 10 (λ X_=>(Cf hM (aL 0) hb))<|afZ [11]<|aae 12 (aag [] [] λ n3=>?_);refine RD.nt<|aae 13 (RDO.appX [] NV ([]:List (Int×Int)) [((t:Int),(M.base+(M.lg.length:Int)))] 0 0 rfl (SlX.nil _ _) (by simp) ?_);rintro A4 c5 T6 ⟨hs7,hz8⟩;refine afZ [14,15]<|Sx 16 [] [.o 1]<|aad<|ae 3 [] λ _=>?_;have IT:SlX k9 239 (qO t (([]:List Int)++[(M.base+(M.lg.length:Int))])) A4 c5 T6:=by
   exact hs7
  clear hs7;refine Sr 19 [.o 1,.o 1]<|aal ((((0+1):Nat):Int)>(w:Int)) 47 (λ h9=>?_) λ h9=>?_
  ·(exfalso;omega)
  ·refine OG 8<|QI [] [1] [0,1] (vI 0) (ap [(rb,.lit [vP mb 0,vI (w:Int),.slice A4 (0+1) c5] 140 (0,0))] [T6,T]) ?_;rw[pQ M 0 t hw.1];exact⟨(_,_),by simp[ap],rfl,.mk IT rfl (λ e_=>by cases e_),hM.weak WZ⟩
theorem F7(hs:SlX k9 239 (qO a ms) A cap Hl)(hn:n=ms.length)(WE:1<=n)(Zn:n<=100000000)(ht:t=a+n)(hr:∀k∈ms,M.base<=k/\k<=(M.base+(M.lg.length:Int)))(hM:MemH mb M k T)(hb:0<=M.base/\M.base<=1000000000)(hw:1<=w/\w<=13)(WZ:k2<=k)(ZI:t<=1000000):af1 95 #[vP rb 0,vI (t:Int)] (ap [(rb,.lit [vP mb 0,vI (w:Int),.slice A n cap] 140 (0,0))] [Hl,T]) F (λ u H'=>∃x:HL×HL,H'=ap [] [x.1,x.2]/\(u=vI 0/\RingH rb mb w (dZ w M a ms t).2.1 (dZ w M a ms t).2.2 x.1/\MemH mb (dZ w M a ms t).1 k2 x.2)):=by
 have hw_:CS a ms+1=(t:Int):=by unfold CS;rw[if_neg (by rintro rfl;simp at hn;omega)];omega
 refine QF Tryz.func95 mn<|OG 12<|aal ((t:Int)<0) 7 (λ h1=>?_) λ h1=>?_
 ·(exfalso;omega)
 ·refine Sr 13 [.o 0]<|aal ((n:Int)>0) 14 (λ h2=>?_) λ h2=>?_
  ·refine OG 2<|aah (CT (rb:=rb) (mb:=mb) (w:=w) hs (ar 0) hn Zn (ay 0))<|ah 5 [.nw] [aX ((CS a ms)+1)] λ _=>aam ((t:Int)=(CS a ms)+1) 20 (λ h3=>?_) λ h3=>?_
   ·refine OG 4<|aak [13,16] []<|af [] [0,1,5,6,2,7,3,8,4,9] (aab 2)<|aac [] 10 (λ X_=>(Cf hM (aL 1) hb))<|afZ [11]<|aae 12 (aag [] [] λ n5=>?_);refine aae 13 (RDO.appX [] NV (qO a ms) [((t:Int),(M.base+(M.lg.length:Int)))] 0 0 (hn.trans (kl a ms).symm) hs (by rw[kl];simp;omega) ?_);rintro A6 c7 T8 ⟨hs9,am2⟩;refine afZ [14,15]<|Sx 16 [] [.o 1]<|aad<|ae 3 [] λ _=>?_;have IT:SlX k9 239 (qO a (ms++[(M.base+(M.lg.length:Int))])) A6 c7 T8:=by
     rw[xI,<- hn,<- ht];exact hs9
    clear hs9;refine Sr 19 [.o 1,.o 1]<|aal ((((n+1):Nat):Int)>(w:Int)) 47 (λ Ve=>?_) λ Ve=>?_
    ·refine ae 2 [] λ _=>?_;have ZL:=IT;obtain⟨b1,o1,M1,f1,rfl,rfl,hf1,hM1,hc1,hd1,WH⟩:=vW IT (by simp);rw[aaK,pt,<- hn] at hc1;refine rz 0 (x:=(b1,.rows 2 M1 (aD k9 f1) 239 (0,0))) ?_;have ZU:=vq hr (i:=1) (by omega);have ais:((ms++[(M.base+(M.lg.length:Int))]).getD 1 0-M.base).toNat<=M.lg.length:=by omega
     have air:(ms++[(M.base+(M.lg.length:Int))]).getD 1 0=M.base+((((ms++[(M.base+(M.lg.length:Int))]).getD 1 0-M.base).toNat:Nat):Int):=by omega
     refine Sr 8 [.o 2]<|A5 (A:=some ⟨b1,o1*2,none⟩) (n:=(n+1)) (cap:=c7) (l:=1) (h:=n+1) (m:=n+1) (sz:=2) (li:=some 1) (hi:=some (((n+1):Nat):Int)) (mi:=some (((n+1):Nat):Int)) rfl rfl rfl (by omega) (by omega) hc1<|aw 55 (congrArg (λ v_=>(.slice v_ (n+1-1) (n+1-1):Value)) (Kj (b:=b1) (o:=o1) (wd:=2) (l:=1) (m:=n+1) (by omega)))<|Sr 5 [.o 2]<|aak [11] []<|aH [] [0,4,1,5,2,6,3,7,8,9,10] [.o 2,.o 2,.ix 0,.row 0 ((o1+1)+0) 1] [(((o1+1)*2+0*2)+1)=((o1+1)+0)*2+1/\((o1+1)+0)<M1,0=((0:Nat):Int)/\0<(n+1-1)]<|fM 68 (congrArg (λ v_=>(vI v_:Value)) (congrArg Prod.snd (WH 1 (by simp;omega))))<|aae 11 (aaf [] [] [0] (P4 (n0:=((ms++[(M.base+(M.lg.length:Int))]).getD 1 0-M.base).toNat) (k2:=k2) hM hb ais WZ air) ?_);rintro _ T12 ⟨rfl,Y2⟩;refine QQ 6<|QI [] [2,0] [0] (vI 0) (ap [(rb,.lit [vP mb 0,vI (w:Int),vS b1 ((o1+1)*2) (n+1-1) (n+1-1)] 140 (0,0)),(b1,.rows 2 M1 (aD k9 f1) 239 (0,0))] [T12]) ?_;rw[Ci M (by omega) (by rintro rfl;simp at hn;omega)];have WV:=ZL.cut (k:=1) (h:=n+1) (m:=n+1) (by omega) (by rw[kl];simp;omega) (by omega) hc1;rw[WP (by rw[kl];simp;omega),F6] at WV;have Z6:AZ (some ⟨b1,o1*2,none⟩) 1 2 (n+1)=some ⟨b1,(o1+1)*2,none⟩:=Kj (by omega);rw[show k9.w=2 from rfl,Z6] at WV;exact⟨(_,_),by simp[ap],rfl,.mk (n:=n+1-1) WV (by simp;omega) (λ e_=>by have h_:=congrArg List.length e_;rw[aaY,aaK,pt,adl] at h_;omega),Y2⟩
    ·refine OG 8<|QI [] [1] [0,1] (vI 0) (ap [(rb,.lit [vP mb 0,vI (w:Int),.slice A6 (n+1) c7] 140 (0,0))] [T8,T]) ?_;rw[Kk M (by omega) (by rintro rfl;simp at hn;omega)];exact⟨(_,_),by simp[ap],rfl,.mk (n:=n+1) IT (by simp;omega) (λ e_=>by simp at e_),hM.weak WZ⟩
   ·(exfalso;omega)
  ·(exfalso;omega)
theorem SlX.take{e:Enc α}{T:TypeId}{l:List α}(h:SlX e T l A cap Hl)(k:Nat):SlX e T (l.take k) A cap Hl:=by
 rcases h with ⟨rfl,rfl,rfl,rfl⟩|⟨b,o,M,full,h1,h2,h3,h3',h4,h5⟩
 ·rw[List.take_nil];exact SlX.nil _ _
 ·refine .inr ⟨b,o,M,full,h1,h2,h3,h3',by rw[aaN];omega,?_⟩;rw[aaN]
  conv=>rhs;rw[<- h5]
  rw[adi]
theorem P5{F:HL}(h:MemH mb M k T)(hk:k2<=k)(hb:0<=M.base/\M.base<=1000000000)(Vk:n0<=M.lg.length)(UA:∀e∈M.lg.drop n0,0<=e.1/\e.1<(M.cs.length:Int)){v:Int}(hv:v=M.base+(n0:Int)):af1 68 #[vP mb 0,vI v] (ap [] [T]) F (λ u H'=>∃x,H'=ap [] [x]/\(u=vI 0/\MemH mb (lL M n0) k2 x)):=by
 subst hv;exact Ki F h hk hb Vk UA
theorem M7 (w:Nat) {x b1:Nat} (o1:Nat) {M1:Nat}{f1:List (Int×Int)} (F:HL)(hs:SlX k9 239 (qO a ms) (some ⟨b1,o1*2,none⟩) cap [(b1,.rows 2 M1 (aD k9 f1) 239 (0,0))])(hn:n=ms.length)(WE:1<=n)(Zn:n<=100000000)(hx:a<=x/\x<a+n)(hx8:x<=1000000)(hcap:n<=cap)(hM1:o1+cap<=M1)(hg:∀k,k<n->f1.getD (o1+k) k9.dflt=(((a+k:Nat):Int),ms.getD k 0))(hr:M.base<=(ms.getD (x-a) 0)/\(ms.getD (x-a) 0)<=(M.base+(M.lg.length:Int)))(UA:∀e∈M.lg.drop ((ms.getD (x-a) 0)-M.base).toNat,0<=e.1/\e.1<(M.cs.length:Int))(hM:MemH mb M k T)(hb:0<=M.base/\M.base<=1000000000)(WZ:k2<=k):af1 92 #[vP rb 0,vI (x:Int)] (ap [(rb,.lit [vP mb 0,vI (w:Int),vS b1 (o1*2) n cap] 140 (0,0)),(b1,.rows 2 M1 (aD k9 f1) 239 (0,0))] [T]) F (λ u H'=>∃y:HL×HL,H'=ap [] [y.1,y.2]/\(u=vI 0/\RingH rb mb w a (ms.take (x-a+1)) y.1/\MemH mb (lL M ((ms.getD (x-a) 0)-M.base).toNat) k2 y.2)):=by
 have XB:(f1.getD (o1+(x-a)) k9.dflt).1=(x:Int):=by rw[hg _ (by omega)];show ((a+(x-a):Nat):Int)=x;omega
 have Xh:∀k,k<x-a->¬ (f1.getD (o1+k) k9.dflt).1=(x:Int):=by intro k hk;rw[hg _ (by omega)];show ¬ ((a+k:Nat):Int)=x;omega
 have anL:(f1.getD (o1+(n-1)) k9.dflt).1=((a+(n-1):Nat):Int):=by rw[hg _ (by omega)]
 have anJ:(f1.getD o1 k9.dflt).1=((a+0:Nat):Int):=by have h_:=hg 0 (by omega);rw[acK] at h_;rw[h_]
 refine QF Tryz.func92 mn<|ae 8 [] λ n1=>aak [] []<|af [] [0,1,2,3,4,5,6] [.o 1]<|RD.em ((n:Int)=0) 13 (λ h2=>?_) λ h2=>?_
 ·(exfalso;omega)
 ·refine af [] [7,8] [.o 0]<|aac [] 9 (λ X_=>(Hf (rb:=rb) (mb:=mb) (b:=b1) o1 (M:=M1) (cap:=cap) (w:=w) (full:=f1) (eF 1) (eF 2) WE (by omega) Zn))<|afZ [10,11]<|QQ 1<|aal ((x:Int)<(f1.getD o1 k9.dflt).1) 18 (λ h3=>?_) λ h3=>?_
  ·(exfalso;omega)
  ·refine OG 5<|aak [] []<|af [] [0,1] [.o 0]<|aac [] 2 (λ X_=>(xK (rb:=rb) (mb:=mb) (b:=b1) o1 (M:=M1) (cap:=cap) (w:=w) (full:=f1) (eF 1) (eF 2) WE (by omega) Zn))<|afZ [3]<|QQ 1<|aal ((x:Int)>(f1.getD (o1+(n-1)) k9.dflt).1) 22 (λ h4=>?_) λ h4=>?_
   ·(exfalso;omega)
   ·refine Sr 10 [.o 1]<|aah (LK (b:=b1) o1 (M:=M1) cap (tq:=n1+0) (x-a) (full:=f1) (ay 0) (ay 2) (by omega) Zn (by omega) XB Xh)<|OG 5<|aak [12] []<|aH [] [0,4,8,1,5,2,6,3,7,9,10,11] [.o 1,.o 1,.ix (x-a),.row 2 (o1+(x-a)) 1] [((o1*2+(x-a)*2)+1)=(o1+(x-a))*2+1/\(o1+(x-a))<M1,((x-a:Nat):Int)=(((x-a):Nat):Int)/\(x-a)<n]<|fM 40 (congrArg (λ v_=>(vI v_:Value)) (congrArg Prod.snd (hg (x-a) (by omega))))<|aae 12 (aaf [] [] [0] (P5 (n0:=((ms.getD (x-a) 0)-M.base).toNat) (k2:=k2) hM WZ hb (by omega) UA (show (ms.getD (x-a) 0)=M.base+((((ms.getD (x-a) 0)-M.base).toNat:Nat):Int) by omega)) ?_);rintro _ T5 ⟨rfl,Vc⟩;refine afZ [13]<|aad<|ah 30 [.o 1,.nw,.sl 0 ((x-a)+1) false,.o 1] [0=0/\((x-a:Nat):Int)+1=((((x-a)+1):Nat):Int)/\0<=((x-a)+1)/\((x-a)+1)<=cap/\cap≠0,aX (((x-a:Nat):Int)+1)] λ _=>QI [] [1,2] [0] (vI 0) (ap [(rb,.lit [vP mb 0,vI (w:Int),vS b1 (o1*2+0*2) (((x-a)+1)-0) (cap-0)] 140 (0,0)),(b1,.rows 2 M1 (aD k9 f1) 239 (0,0))] [T5]) ?_;have WV:=hs.take (x-a+1);rw[xJ] at WV;exact⟨(_,_),by simp[ap],rfl,.mk (n:=x-a+1) WV (by rw[aaN];omega) (λ e_=>by have h_:=congrArg List.length e_;rw[aaN,adl] at h_;omega),Vc⟩
theorem Km{rb:Nat}(hG:RingH rb mb w a ms G)(ht:ms≠[]->t=a+ms.length)(hr:∀k∈ms,M.base<=k/\k<=M.base+(M.lg.length:Int))(hM:MemH mb M k T)(hb:0<=M.base/\M.base<=1000000000)(hw:1<=w/\w<=13)(WZ:k2<=k)(ZI:t<=1000000)(hl:ms.length<=100000000):af1 95 #[vP rb 0,vI (t:Int)] (ap [] [G,T]) F (λ u H'=>∃x:HL×HL,H'=ap [] [x.1,x.2]/\(u=vI 0/\RingH rb mb w (dZ w M a ms t).2.1 (dZ w M a ms t).2.2 x.1/\MemH mb (dZ w M a ms t).1 k2 x.2)):=by
 cases hG with
 | @mk A cap n Hl hs hn h0=>
  by_cases e:ms=[]
  ·obtain⟨rfl,rfl,rfl⟩:=h0 e;subst e;obtain rfl:n=0:=hn;have h:=Kl rb 0 F hM hb hw WZ ZI;rw[pQ M 0 t hw.1] at h;rw[pQ M a t hw.1];simpa [ap] using h
  ·have hp:1<=n:=by
    cases ms with
    |nil=>exact absurd rfl e
    |cons _ _=>rw[hn];simp
   have h:=F7 rb F hs hn hp (by omega) (by rw[hn];exact ht e) hr hM hb hw WZ ZI;simpa [ap] using h
theorem M8{rb x:Nat}(hG:RingH rb mb w a ms G)(hx:a<=x/\x<a+ms.length)(hx8:x<=1000000)(hl:ms.length<=100000000)(hr:M.base<=ms.getD (x-a) 0/\ms.getD (x-a) 0<=M.base+(M.lg.length:Int))(UA:∀e∈M.lg.drop (ms.getD (x-a) 0-M.base).toNat,0<=e.1/\e.1<(M.cs.length:Int))(hM:MemH mb M k T)(hb:0<=M.base/\M.base<=1000000000)(WZ:k2<=k):af1 92 #[vP rb 0,vI (x:Int)] (ap [] [G,T]) F (λ u H'=>∃y:HL×HL,H'=ap [] [y.1,y.2]/\(u=vI 0/\RingH rb mb w a (ms.take (x-a+1)) y.1/\MemH mb (lL M (ms.getD (x-a) 0-M.base).toNat) k2 y.2)):=by
 cases hG with
 | @mk A cap n Hl hs hn h0=>
  have e:ms≠[]:=by rintro rfl;simp at hx;omega
  have hs2:=hs;obtain⟨b,o,M1,full,rfl,rfl,h3,h4,h5,h6,h7⟩:=vW hs e;have h:=M7 rb w o F hs2 hn (by omega) (by omega) (by omega) hx8 (by omega) h4 (λ k hk=>h7 k (by omega)) hr UA hM hb WZ;simpa [ap] using h
theorem zN{d:α}{l m:List α}(h1:l.length=m.length)(h2:∀k,k<l.length->l.getD k d=m.getD k d):l=m:=by
 apply List.ext_getElem h1;intro i h3 h4;have:=h2 i h3;rwa [aaG,aaG,aa1 h3,aa1 h4] at this
theorem DN{x y:Inp}(h1:x.dx=y.dx)(h2:x.dy=y.dy)(h3:x.act=y.act):x=y:=by cases x;cases y;simp_all
theorem Na{now:Nat}{S:PS ρ}(h:¬ (S.ms≠[]/\S.a+S.ms.length=now+1)):((dT w S now).M,(dT w S now).a,(dT w S now).ms)=dZ w S.M S.a S.ms now:=by
 unfold dT dZ;rw[if_neg h];dsimp only;split <;> rfl
theorem wS{now:Nat}:CS a ms=(now:Int)↔(ms≠[]/\a+ms.length=now+1):=by
 unfold CS;split
 ·next e=>subst e;simp
 ·next e=>
  constructor
  ·intro h;exact⟨e,by omega⟩
  ·rintro⟨_,h⟩;omega
theorem PInv.marks{g:Nat->ρ->Gm}{c0:List Int}{S:PS ρ}{V:List ρ}(h:PInv g c0 w S V m):∀k∈S.ms,S.M.base<=k/\k<=S.M.base+(S.M.lg.length:Int):=by
 intro k hk;obtain⟨i,hi,rfl⟩:=ae2.1 hk;have h1:=h.rst i _ (aa1 hi);exact⟨h1.lo,h1.hi⟩
def j7(x:Inp):Inp:=⟨x.dx,x.dy,0⟩
instance:DecidableEq Inp:=λ x y=>decidable_of_iff (x.dx=y.dx/\x.dy=y.dy/\x.act=y.act) ⟨λ h=>DN h.1 h.2.1 h.2.2,λ h=>by rw[h];exact⟨rfl,rfl,rfl⟩⟩
theorem Kn{B:Option Addr} (c:Nat) (d:Nat){xs ys:List Inp}{F:HL}(hl:RowL cT 106 F A n xs)(Uy:RowL cT 106 F B m ys)(hb:n<=1000000):af0 91 #[.slice A n c,.slice B m d] F (.bool (decide (xs=ys))):=by
 have YA:=hl.len;have ahI:=Uy.len;refine QG Tryz.func91<|OG 15<|aam ((n:Int)=(m:Int)) 10 (λ h1=>?_) λ h1=>?_
 ·refine OG 12<|aan (σ:=Nat) (λ k_=>⟨[(0,.slice A n c),(1,.slice B m d),(12,vI (n:Int)),(13,vI (k_:Int))],[],[],k_<=n/\∀j,j<k_->xs.getD j dI=ys.getD j dI,n-k_⟩) 0 [] [] (⟨aaJ _,λ j hj=>absurd hj (ot _)⟩) ?_;rintro k_ ⟨XT,Va⟩ UC;refine OG 6<|aal ((k_:Int)<(n:Int)) 14 (λ h4=>?_) λ h4=>?_
  ·refine OG 12<|aak [] []<|afZ [0,1,4,5] ?_;obtain⟨amB,U7,acP,ao_,alD,afr,aaW,akI,aeD⟩:=hl.at (k:=k_) (by omega);refine fM 16 (congrArg (λ v_=>(.slice v_ n c:Value)) afr)<|RD.ro (λ _=>(mc aaW mn)) ?_;obtain⟨amA,U6,acO,ao9,alC,afq,ad6,akH,aeC⟩:=Uy.at (k:=k_) (by omega);refine fM 20 (congrArg (λ v_=>(.slice v_ m d:Value)) afq)<|RD.ro (λ _=>(mc aaW (mc ad6 mn)))<|aH [] [2,6,3,7] [.ix k_,.ix k_,.rorow 0 (U7+k_) 0,.rorow 0 (U7+k_) 1,.rorow 0 (U7+k_) 2,.rorow 1 (U6+k_) 0,.rorow 1 (U6+k_) 1,.rorow 1 (U6+k_) 2] [((U6*3+k_*3)+2)=(U6+k_)*3+2/\(U6+k_)<acO,((U6*3+k_*3)+1)=(U6+k_)*3+1/\(U6+k_)<acO,(U6*3+k_*3)=(U6+k_)*3+0/\(U6+k_)<acO,((U7*3+k_*3)+2)=(U7+k_)*3+2/\(U7+k_)<acP,((U7*3+k_*3)+1)=(U7+k_)*3+1/\(U7+k_)<acP,(U7*3+k_*3)=(U7+k_)*3+0/\(U7+k_)<acP,(k_:Int)=((k_:Nat):Int)/\k_<m,(k_:Int)=((k_:Nat):Int)/\k_<n]<|fM 19 (congrArg (λ v_=>(.agg #[vI v_.dx,vI v_.dy,vI v_.act]:Value)) aeD)<|fM 23 (congrArg (λ v_=>(.agg #[vI v_.dx,vI v_.dy,vI v_.act]:Value)) aeC)<|af [] [8] [.sq]<|QQ 1<|rv ((decide ((xs.getD k_ dI).dx=(ys.getD k_ dI).dx) && (decide ((xs.getD k_ dI).dy=(ys.getD k_ dI).dy) && (decide ((xs.getD k_ dI).act=(ys.getD k_ dI).act) && true)))) 24 (λ h5=>?_) λ h5=>?_
   ·refine ah 8 [.nw] [aX ((k_:Int)+1)] λ _=>UC (k_+1) [] [] ?_
    try dsimp only
    have XP:=h5;simp only[abc,decide_eq_true_eq] at XP;refine⟨⟨by omega,λ j hj=>?_⟩,by omega⟩
    by_cases ej:j=k_
    ·rw[ej];exact DN XP.1 XP.2.1 XP.2.2.1
    ·exact Va j (by omega)
   ·refine OG 6<|QJ (.bool false) [] ⟨by rw[abv (λ e_=>h5 (by rw[e_];simp))],rfl⟩
  ·refine OG 11<|QJ (.bool true) [] ?_;obtain rfl:k_=n:=by omega
   exact⟨by rw[abw (zN (by omega) (λ k hk=>Va k (by omega)))],rfl⟩
 ·refine OG 6<|QJ (.bool false) [] ⟨by rw[abv (λ e_=>h1 (by rw[<- YA,e_,ahI]))],rfl⟩
theorem Ko(x:Inp){F:HL}:af0 93 #[.agg #[vI x.dx,vI x.dy,vI x.act]] F (.agg #[vI (j7 x).dx,vI (j7 x).dy,vI (j7 x).act]):=by
 refine QG Tryz.func93<|ae 18 (ow 1 4++aab 3) λ n1=>aap (aab 3) [] [] ⟨rfl,rfl⟩
theorem GameH.op(h:GameH rs ds bp gb S M k G):∃mb T U,MemH mb M k T/\uH S rs ds U/\G=ap [(gb,.lit (dW S bp mb) 119 (0,0))] [T,U]:=by
 cases h with
 |mk mb T U hM hU=>exact⟨mb,T,U,hM,hU,rfl⟩
theorem F8{b o N c:Nat}{j:Nat×Int}{full xs:List Inp}{U F:HL}{now:Int}(hM:MemH mb M (k+20000) T)(hU:uH S rs ds U)(WD:M.get 0=now)(hj:j.1<5)(hA:AtOk F bp (M.get 0) j)(hE:cF F)(hI:(b,.rows 3 N (jM full) 106 (0,0))∈F)(hir:o+xs.length<=N)(VS:xs.length<=1000000)(hx:∀k,k<xs.length->full.getD (o+k) dI=xs.getD k dI)(hk:TkOk S j xs M\/¬ dq S.players xs.length xs now=0) :
  af1 39 #[vP gb 0,vS b (o*3) xs.length c] (ap [(gb,.lit (dW S bp mb) 119 (0,0))] [T,U]) F (λ u H'=>∃x:(Option Addr×Nat×Nat)×HL×HL,H'=ap [(gb,.lit (dW S bp mb) 119 (0,0))] [x.2.1,U,x.2.2]/\
   ((TkOk S j xs M/\MemH mb (iK (mu S j xs) M) k x.2.1/\SlIs aB 112 (l7 (mu S j xs) M) x.1.1 x.1.2.1 x.2.2/\u=.tuple #[.slice x.1.1 (l7 (mu S j xs) M).length x.1.2.1,vI ((x.1.2.2+1:Nat):Int),vI 0])\/
    (¬ dq S.players xs.length xs now=0/\MemH mb M k x.2.1/\u=.tuple #[.slice none 0 0,vI 0,vI (dq S.players xs.length xs now)]))):=by
 subst WD;have hl:RowL cT 106 F (some ⟨b,o*3,none⟩) xs.length xs:=.rows b o N full (0,0) _ xs hI hir rfl hx;rcases hk with hk|hk
 ·obtain⟨m,hm,hg⟩:=hk.ex;obtain⟨e1,e2⟩:=DJ hm hg;refine(zJ gb o c m k hj hA hU hE hI hir VS (by omega) rfl hx (hM.weak (by omega)) hk.now hg hk.ok).mono λ u H' h=>?_;obtain⟨⟨T1,A,cc,E⟩,rfl,h1,h2,h3⟩:=h;dsimp only at h1 h2 h3;rw[e1] at h1;rw[e2] at h2 h3;exact⟨((A,cc,m),T1,E),rfl,.inl ⟨hk,h1,h2,h3⟩⟩
 ·refine(F1 S bp gb c U hl VS hM rfl hk).mono λ u H' h=>?_;obtain⟨rfl,rfl⟩:=h;exact⟨((none,0,0),T,[]),by simp[ap],.inr ⟨hk,hM.weak (by omega),rfl⟩⟩
def TN(S:Setup)(J:Nat->Nat×Int)(n:Nat)(xss:List (List Inp))(u:Value)(x:(Setup×Nat×Option Addr×Nat)×HL×HL):Prop :=
 SetEq S x.1.1/\(((∀i,i<n->TkOk x.1.1 (J i) (xss.getD i []) (kH (rG x.1.1 J xss) ⟨bz S S.nb,[],0⟩ i))/\x.2.1=[(x.1.2.1,.rows 1 (kH (rG x.1.1 J xss) ⟨bz S S.nb,[],0⟩ n).cs.length (aY (kH (rG x.1.1 J xss) ⟨bz S S.nb,[],0⟩ n).cs) 3 (0,0))]/\
   SlIs aB 112 (plE (rG x.1.1 J xss) ⟨bz S S.nb,[],0⟩ n) x.1.2.2.1 x.1.2.2.2 x.2.2/\u=.tuple #[vS x.1.2.1 0 (kH (rG x.1.1 J xss) ⟨bz S S.nb,[],0⟩ n).cs.length (kH (rG x.1.1 J xss) ⟨bz S S.nb,[],0⟩ n).cs.length,.slice x.1.2.2.1 (plE (rG x.1.1 J xss) ⟨bz S S.nb,[],0⟩ n).length x.1.2.2.2,vI 0])\/
  (∃i,i<n/\(∀k,k<i->TkOk x.1.1 (J k) (xss.getD k []) (kH (rG x.1.1 J xss) ⟨bz S S.nb,[],0⟩ k))/\¬ dq x.1.1.players (xss.getD i []).length (xss.getD i []) ((kH (rG x.1.1 J xss) ⟨bz S S.nb,[],0⟩ i).get 0)=0/\
   u=.tuple #[.slice none 0 0,.slice none 0 0,vI (dq x.1.1.players (xss.getD i []).length (xss.getD i []) ((kH (rG x.1.1 J xss) ⟨bz S S.nb,[],0⟩ i).get 0))]))
theorem Nb{rs_:List Bx}{ds_:List Dr}(bp:Nat) (cap:Nat)(J:Nat->Nat×Int){rs:List Rw}{xss:List (List Inp)}{F:HL}(hS:SetIn F S)(hM:MapIn F S rs_ ds_)(h1:1<=S.nb)(Vu:S.rn<=1000000)(Zr:S.dn<=1000000)(L_:(sizeOf S).toNat<=1000000)(hv:oq S rs_ ds_=0)(hE:cF F)(hr:RowL kG 57 F A n rs)(hw:RwsIn F rs xss)(hxl:∀k,k<n->(xss.getD k []).length<=1000000)(hn:n<=50)(h9:n<=900)(hP:∀S2,SetEq S S2->∀i,i<n->(∀k,k<i->TkOk S2 (J k) (xss.getD k []) (kH (rG S2 J xss) ⟨bz S S.nb,[],0⟩ k))->(TkOk S2 (J i) (xss.getD i []) (kH (rG S2 J xss) ⟨bz S S.nb,[],0⟩ i)\/¬ dq S2.players (xss.getD i []).length (xss.getD i []) ((kH (rG S2 J xss) ⟨bz S S.nb,[],0⟩ i).get 0)=0)/\(J i).1<5/\AtOk F bp ((kH (rG S2 J xss) ⟨bz S S.nb,[],0⟩ i).get 0) (J i)):af1 19 #[Setup.v S,vP bp 0,.slice A n cap] (ap [] []) F (λ u H'=>∃x:(Setup×Nat×Option Addr×Nat)×HL×HL,H'=ap [] [x.2.1,x.2.2]/\TN S J n xss u x):=by
 refine QG Tryz.func19<|ae 12 (ow 0 16) λ n1=>Ss (sa bp hS.up.cl hM.up h1 Vu Zr L_ hv 99020000 (by decide)) ?_;rintro _ ⟨g2,S3,T4⟩ ⟨rfl,he5,hG6⟩;dsimp only at he5 hG6;obtain⟨mb,Tm,U,hMm,hU,eG⟩:=hG6.op;refine OL 0 eG<|OG 31<|aao<|aan (σ:=Nat×Option Addr×Nat×MemS×HL×HL) (λ ⟨i_,A_,c_,N_,T_,E_⟩=>⟨[(9,vP g2 0),(11,.slice A_ ((plE (rG S3 J xss) ⟨bz S S.nb,[],0⟩ i_).length) c_),(26,.slice A n cap),(27,vI (n:Int)),(28,vI (i_:Int))],[(g2,.lit (dW S3 bp mb) 119 (0,0)),((n1+0),.lit (Setup.l S) 32 (0,0))],[T_,E_,U],i_<=n/\N_.cs=(kH (rG S3 J xss) ⟨bz S S.nb,[],0⟩ i_).cs/\MemH mb N_ 99020000 T_/\(0<=N_.base/\N_.base<=1000000*(i_:Int))/\SlIs aB 112 (plE (rG S3 J xss) ⟨bz S S.nb,[],0⟩ i_) A_ c_ E_/\(∀k,k<i_->TkOk S3 (J k) (xss.getD k []) (kH (rG S3 J xss) ⟨bz S S.nb,[],0⟩ k)),n-i_⟩) (0,none,0,⟨bz S S.nb,[],0⟩,Tm,[]) [0,1] [1,0,2] (⟨aaJ _,rfl,hMm,⟨ac5 0,by show (0:Int)<=_;omega⟩,aas _ _,λ k hk=>absurd hk (ot _)⟩) ?_;rintro⟨i_,A_,c_,N_,T_,E_⟩ ⟨XB,Wk,hT_,aeY,IT,Va⟩ XO;refine OG 6<|aal ((i_:Int)<(n:Int)) 29 (λ h9=>?_) λ h9=>?_
 ·refine ae 7 [] λ _=>?_;obtain⟨amE,Zz,ajO,apc,alH,abb,ad9,akL,aeG⟩:=hr.at (k:=i_) (by omega);refine aw 26 (congrArg (λ v_=>(.slice v_ n cap:Value)) abb)<|RN.ro (λ _=>(mc ad9 mn))<|ah 2 [.ix i_,.rorow 0 (Zz+i_) 0] [(Zz*1+i_*1)=(Zz+i_)*1+0/\(Zz+i_)<ajO,(i_:Int)=((i_:Nat):Int)/\i_<n] λ _=>aw 31 (congrArg (λ v_=>(.slice v_.A v_.n v_.c:Value)) aeG) ?_;obtain⟨apx,amI,apJ,apd,ajw,ajq,afc,aez,adI,ala⟩:=hw.get (k:=i_) (by rw[hr.len];omega);refine aw 31 (congrArg (λ v_:Rw=>Value.slice v_.A v_.n v_.c) ajq)<|ae 7 [] λ _=>?_;have acp:=hP S3 he5 i_ (by omega) Va;refine aai [0] [0,2] (F8 (gb:=g2) (mb:=mb) (c:=ajw) (k:=99000000) (rs:=rs_) (ds:=ds_) (S:=S3) (hT_.weak (by decide)) hU (sO Wk 0) acp.2.1 ((show AtOk F bp (N_.get 0) (J i_) by rw[sO Wk];exact acp.2.2).mono λ x hx=>aC hx) (aC hE) (aC afc) aez (by have:=hxl i_ (by omega);omega) adI (acp.1.imp (λ h_=>h_.cs Wk.symm) id)) ?_;rintro _ ⟨⟨A12,c13,n14⟩,Vf,E16⟩ (⟨ZZ,Vd,Yr,rfl⟩|⟨ZZ,Vd,rfl⟩)
  ·dsimp only at Vd Yr;refine OG 23<|RN.appU (c':=c13) (tx:=45) fI (plE (rG S3 J xss) ⟨bz S S.nb,[],0⟩ i_) (l7 (mu S3 (J i_) (xss.getD i_ [])) N_) 3 rfl IT (by have VZ:=wO (rG S3 J xss) ⟨bz S S.nb,[],0⟩ i_;have Ur:=wN (mu S3 (J i_) (xss.getD i_ [])) N_;omega) (Yr.src fI (by decide) (ar 2)) ?_;rintro A20 c21 Zi ⟨abD,amY⟩;refine OG 3<|aak [9] []<|af [] [0,4,1,5,2,6,3,7] (aab 2) ?_;have aeX:0<=(iK (mu S3 (J i_) (xss.getD i_ [])) N_).base/\(iK (mu S3 (J i_) (xss.getD i_ [])) N_).base<=1000000000:=by rw[oH];omega
   refine aac [] 8 (λ X_=>(Cf Vd (aL 1) aeX))<|aae 9 (aaf [] [] [1] (Ka (k2:=99020000) Vd aeX (by decide)) ?_);rintro _ T25 ⟨rfl,Xp⟩;refine aad<|ah 6 [.nw] [aX ((i_:Int)+1)] λ _=>aw 26 (congrArg (λ v_=>(.slice v_ n cap:Value)) abb.symm)<|aw 11 (congrArg (λ v_=>(.slice A20 v_ c21:Value)) (show (plE (rG S3 J xss) ⟨bz S S.nb,[],0⟩ i_).length+(l7 (mu S3 (J i_) (xss.getD i_ [])) N_).length=(plE (rG S3 J xss) ⟨bz S S.nb,[],0⟩ (i_+1)).length by rw[plE,aaK,wl Wk]))<|XO (i_+1,A20,c21,⟨(iK (mu S3 (J i_) (xss.getD i_ [])) N_).cs,[],(iK (mu S3 (J i_) (xss.getD i_ [])) N_).base+((iK (mu S3 (J i_) (xss.getD i_ [])) N_).lg.length:Int)⟩,T25,Zi) [0,1] [0,1,2] ?_
   try dsimp only
   have VU:=Vd.len2;refine⟨⟨by omega,?_,Xp,⟨?_,?_⟩,?_,?_⟩,by omega⟩
   ·show (iK (mu S3 (J i_) (xss.getD i_ [])) N_).cs=_;rw[kH];exact BC Wk
   ·show 0<=(iK (mu S3 (J i_) (xss.getD i_ [])) N_).base+_;omega
   ·show (iK (mu S3 (J i_) (xss.getD i_ [])) N_).base+_<=_;have ae4:=oH (mu S3 (J i_) (xss.getD i_ [])) N_;omega
   ·rw[plE,<- wl Wk];exact abD
   ·intro k_ XT;rcases aa9 k_ i_ with h_|h_
    ·exact Va k_ h_
    ·obtain rfl:k_=i_:=by omega
     exact ZZ.cs Wk
  ·dsimp only at Vd;refine OG 16<|ci 40 (nf (abv ZZ))<|OG 9<|QJ (.tuple #[.slice none 0 0,.slice none 0 0,vI (dq S3.players (xss.getD i_ []).length (xss.getD i_ []) ((kH (rG S3 J xss) ⟨bz S S.nb,[],0⟩ i_).get 0))]) (ap [] []) ⟨((S3,0,none,0),[],[]),by simp[ap],he5,.inr ⟨i_,by omega,Va,ZZ,rfl⟩⟩
 ·refine Sr 12 [.o 0]<|Ss (Fq hT_ (ar 0)) ?_;rintro _ q27 rfl;refine OG 6<|QI [] [0] [1] (.tuple #[vS q27 0 N_.cs.length N_.cs.length,.slice A_ ((plE (rG S3 J xss) ⟨bz S S.nb,[],0⟩ i_).length) c_,vI 0]) (ap [(q27,.rows 1 N_.cs.length (aY N_.cs) 3 (0,0))] [E_]) ?_;obtain rfl:i_=n:=by omega
  refine⟨((S3,q27,A_,c_),[(q27,.rows 1 N_.cs.length (aY N_.cs) 3 (0,0))],E_),by simp[ap],he5,.inl ⟨Va,?_,IT,?_⟩⟩
  ·rw[<- Wk]
  ·rw[<- Wk]
end Go.Proofs.YtjokannbjmndfaaGreatDoor
