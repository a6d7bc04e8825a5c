import Derived.Test.YtdppjkjbghbnjaaGreatDoorD17
set_option maxHeartbeats 4000000
set_option maxRecDepth 100000
set_option linter.all false
namespace Go.Proofs.YtdppjkjbghbnjaaGreatDoor
open Go.RowKit
theorem SlIs.dropI{α:Type}{e:Enc α}{T:TypeId}{l:List α}{A:Option Addr}{cap:Nat}{Hl:HL}(h:SlIs e T l A cap Hl){k:Nat}(hk:k=0 \/ k<l.length):SlIs e T (l.drop k) (slA A k e.w cap) (cap-k) Hl:=by
 rcases hk with rfl|hk
 ·have e1:slA A 0 e.w cap=A:=by
   unfold slA;split
   ·rfl
   ·rcases h with ⟨rfl,_⟩|⟨b,o,full,rfl,_⟩
    ·rfl
    ·rw[Option.map_some,gF rfl];simp[sd]
  rw[e1];exact h
 ·rcases h with ⟨_,_,rfl,_⟩|⟨b,o,full,rfl,rfl,h1,h2,h3⟩
  ·simp at hk
  ·refine .inr ⟨b,o+k,full,?_,by rw[show o+k+(cap-k)=o+cap by omega],by omega,by rw[abq];omega,?_⟩
   ·unfold slA;rw[if_neg (by omega),Option.map_some,gF rfl];simp[sd,Nat.add_mul]
   ·rw[abq]
    conv=>rhs;rw[<- h3]
    rw[List.drop_take,List.drop_drop]
theorem Lr(mb cb n0 k cap:Nat)(M:MemS)(A:Option Addr)(Hl F:HL)(hs:SlIs iY 195 M.lg A cap Hl)(hc:M.cs.length <= 1000000)(hl:M.lg.length <= 100000000)(hb:0 <= M.base /\ M.base <= 1000000000)(Sd:n0 <= M.lg.length)(hk:M.lg.length-n0+k <= 100000000):Sp Tryz.prog 58 #[vP mb 0,vI (M.base+(n0:Int))] (ap [(mb,.lit [vS cb 0 M.cs.length M.cs.length,.slice A M.lg.length cap,vI M.base] 162 (0,0)),(cb,.rows 1 M.cs.length (aU M.cs) 3 (0,0))] [Hl]) F (λ u H'=>u=vI 0 /\ MemH mb (ig M n0) k H'):=by
 have Y0:M.lg.length <= cap:=hs.capLe;refine aat Tryz.func58 rfl mn (A:=[(mb,.lit [vS cb 0 M.cs.length M.cs.length,.slice A M.lg.length cap,vI M.base] 162 (0,0)),(cb,.rows 1 M.cs.length (aU M.cs) 3 (0,0))]) (Ts:=[Hl]) rfl λ w0=>?_;refine ae 10 [] λ _=>aah (yx mb cb M.cs.length A M.lg.length cap M.base (M.base+(n0:Int)) _ (av 0) hb (by omega) (by omega) (by omega))<|aj 24 [.own 0,.nw] [bx ((M.base+(n0:Int))-M.base)] λ _=>aN 6 (congrArg (λ v_=>(vI v_:Value)) (show M.base+(n0:Int)-M.base=(n0:Int) by omega))<|ae 16 (aab 2) λ _=>RN.slA (A:=A) (n:=M.lg.length) (cap:=cap) (l:=n0) (sz:=2) rfl (by omega) Y0<|ae 17 (aab 2) λ _=>aal ((((M.lg.length-n0):Nat):Int)<(n0:Int)) 38 (λ h1=>?_) λ h1=>?_
 ·refine ae 7 [.own 0] λ _=>aao<|RN.appU (c':=(cap-n0)) (tx:=160) qC ([]:List (Int × Int)) (M.lg.drop n0) 0 rfl (aas _ _) (by rw[abq];simp;omega) (RowL.src qC (by decide) (hs.drop (au 1) rfl Sd)) ?_;rintro A2 c3 T4 ⟨SD,hz6⟩;refine ae 10 [.own 0] λ _=>aap [] [0,1] [0] (v:=vI 0) (H':=(ap [(mb,.lit [vS cb 0 M.cs.length M.cs.length,.slice A2 (0+((M.lg.drop n0)).length) c3,vI (M.base+(n0:Int))] 162 (0,0)),(cb,.rows 1 M.cs.length (aU M.cs) 3 (0,0))] [T4])) ?_;refine⟨rfl,?_⟩;rw[List.nil_append] at SD;have h_:=MemH.mk (mb:=mb) (M:=ig M n0) (k:=k) cb A2 c3 T4 SD hc (by show (M.lg.drop n0).length+k <= _;rw[abq];omega);have Vo:(ig M n0).lg.length=0+(M.lg.drop n0).length:=(Nat.zero_add _).symm;rw[Vo] at h_;exact h_
 ·refine ae 8 [] λ _=>aap [] [0,1] [0] (v:=vI 0) (H':=(ap [(mb,.lit [vS cb 0 M.cs.length M.cs.length,.slice (slA A n0 2 cap) (M.lg.length-n0) (cap-n0),vI (M.base+(n0:Int))] 162 (0,0)),(cb,.rows 1 M.cs.length (aU M.cs) 3 (0,0))] [Hl])) ?_;refine⟨rfl,?_⟩;have h_:=MemH.mk (mb:=mb) (M:=ig M n0) (k:=k) cb (slA A n0 2 cap) (cap-n0) Hl (hs.dropI (by omega)) hc (by show (M.lg.drop n0).length+k <= _;rw[abq];omega);have Vo:(ig M n0).lg.length=M.lg.length-n0:=abq;rw[Vo] at h_;exact h_
theorem NZ{mb n0 k k2:Nat}{M:MemS}{T:HL}(F:HL)(h:MemH mb M k T)(hb:0 <= M.base /\ M.base <= 1000000000)(Sd:n0 <= M.lg.length)(hk:k2 <= k){v:Int}(hv:v=M.base+(n0:Int)):Sp Tryz.prog 58 #[vP mb 0,vI v] (ap [] [T]) F (λ u H'=>∃x,H'=ap [] [x] /\ (u=vI 0 /\ MemH mb (ig M n0) k2 x)):=by
 subst hv;rw[bj];cases h with
 | mk cb A cap Hl hs hc hl=>exact(Lr mb cb n0 k2 cap M A Hl F hs hc (by omega) hb Sd (by omega)).tl
theorem IV{b o wd l m:Nat}(h:m≠l):zz (some ⟨b,o*wd,none⟩) l wd m=some ⟨b,(o+l)*wd,none⟩:=by
 unfold zz slA;rw[if_neg h,Option.map_some,gF rfl];simp[sd,Nat.add_mul]
theorem EI(a:Nat)(l:List Int):(p6 a l).drop 1=p6 (a+1) (l.drop 1):=by cases l <;> rfl
theorem ue{b:Int}{L:Nat}{ms:List Int}(hr:∀k∈ms,b <= k /\ k <= b+(L:Int)){i:Nat}(hi:i<ms.length+1):b <= (ms++[b+(L:Int)]).getD i 0 /\ (ms++[b+(L:Int)]).getD i 0 <= b+(L:Int):=by
 have hm:=iG (l:=ms++[b+(L:Int)]) (i:=i) (by simpa using hi) 0;rcases List.mem_append.1 hm with h|h
 ·exact hr _ h
 ·rw[List.mem_singleton] at h;omega
inductive RingH(rb mb w a:Nat)(ms:List Int):HL -> Prop
 | mk {A:Option Addr} {cap n:Nat} {Hl:HL} (hs:SlX kS 188 (p6 a ms) A cap Hl) (hn:n=ms.length) (h0:ms=[] -> A=none /\ cap=0 /\ Hl=[]):RingH rb mb w a ms (ap [(rb,.lit [vP mb 0,vI (w:Int),.slice A n cap] 169 (0,0))] [Hl])
def eE(w:Nat)(M:MemS)(a:Nat)(ms:List Int)(t:Nat):MemS × Nat × List Int :=
 let mk:=M.base+(M.lg.length:Int)
 let a0:=if ms=[] then t else a
 if w<ms.length+1 then (ig M (((ms++[mk]).getD 1 0)-M.base).toNat,a0+1,(ms++[mk]).drop 1) else (M,a0,ms++[mk])
theorem o8{w:Nat}(M:MemS)(a t:Nat)(h:1 <= w):eE w M a [] t=(M,t,[M.base+(M.lg.length:Int)]):=by
 unfold eE;dsimp only;rw[if_neg (by simp;omega),if_pos rfl];rfl
theorem AQ{w a t:Nat}{ms:List Int}(M:MemS)(h:w<ms.length+1)(hn:ms≠[]):eE w M a ms t=(ig M (((ms++[M.base+(M.lg.length:Int)]).getD 1 0)-M.base).toNat,a+1,(ms++[M.base+(M.lg.length:Int)]).drop 1):=by
 unfold eE;dsimp only;rw[if_pos h,if_neg hn]
theorem IW{w a t:Nat}{ms:List Int}(M:MemS)(h:¬ w<ms.length+1)(hn:ms≠[]):eE w M a ms t=(M,a,ms++[M.base+(M.lg.length:Int)]):=by
 unfold eE;dsimp only;rw[if_neg h,if_neg hn]
theorem IX(rb mb w cap t k k2:Nat)(M:MemS)(T F:HL)(hM:MemH mb M k T)(hb:0 <= M.base /\ M.base <= 1000000000)(hw:1 <= w /\ w <= 13)(TZ:k2 <= k)(WT:t <= 1000000):Sp Tryz.prog 77 #[vP rb 0,vI (t:Int)] (ap [(rb,.lit [vP mb 0,vI (w:Int),.slice none 0 0] 169 (0,0))] [T]) F (λ u H'=>∃x:HL × HL,H'=ap [] [x.1,x.2] /\ (u=vI 0 /\ RingH rb mb w (eE w M 0 [] t).2.1 (eE w M 0 [] t).2.2 x.1 /\ MemH mb (eE w M 0 [] t).1 k2 x.2)):=by
 refine aat Tryz.func77 rfl mn (A:=[(rb,.lit [vP mb 0,vI (w:Int),.slice none 0 0] 169 (0,0))]) (Ts:=[T]) rfl λ w0=>?_;refine ae 12 [] λ _=>aal ((t:Int)<0) 7 (λ h1=>?_) λ h1=>?_
 ·(exfalso;omega)
 ·refine ae 25 [.own 0] λ _=>aak [13,16] []<|ag [] [0,1,5,6,2,7,3,8,4,9] (aab 2)<|aac [] 10 (λ X_=>(vB hM (aK 0) hb))<|ag [] [11] []<|aae 12 (aag [] [] λ n3=>?_);refine RD.nt<|aae 13 (RDO.appX [] LT ([]:List (Int × Int)) [((t:Int),(M.base+(M.lg.length:Int)))] 0 0 rfl (SlX.nil _ _) (by simp) ?_);rintro A4 c5 T6 ⟨hs7,hz8⟩;refine ag [] [14,15] []<|aae 16 (aag [] [.own 1] λ _=>?_);refine aad<|ae 3 [] λ _=>?_;have RA:SlX kS 188 (p6 t (([]:List Int)++[(M.base+(M.lg.length:Int))])) A4 c5 T6:=by
   exact hs7
  clear hs7;refine ae 19 [.own 1,.own 1] λ _=>aal ((((0+1):Nat):Int)>(w:Int)) 47 (λ h9=>?_) λ h9=>?_
  ·(exfalso;omega)
  ·refine ae 8 [] λ _=>aap [] [1] [0,1] (v:=vI 0) (H':=(ap [(rb,.lit [vP mb 0,vI (w:Int),.slice A4 (0+1) c5] 169 (0,0))] [T6,T])) ?_;rw[o8 M 0 t hw.1];exact⟨(_,_),by simp[ap],rfl,.mk RA rfl (λ e_=>by cases e_),hM.weak TZ⟩
theorem EJ(rb mb w cap t k k2:Nat)(M:MemS)(n a:Nat)(ms:List Int)(A:Option Addr)(Hl:HL)(T F:HL)(hs:SlX kS 188 (p6 a ms) A cap Hl)(hn:n=ms.length)(TK:1 <= n)(WA:n <= 100000000)(ht:t=a+n)(hr:∀k∈ms,M.base <= k /\ k <= (M.base+(M.lg.length:Int)))(hM:MemH mb M k T)(hb:0 <= M.base /\ M.base <= 1000000000)(hw:1 <= w /\ w <= 13)(TZ:k2 <= k)(WT:t <= 1000000):Sp Tryz.prog 77 #[vP rb 0,vI (t:Int)] (ap [(rb,.lit [vP mb 0,vI (w:Int),.slice A n cap] 169 (0,0))] [Hl,T]) F (λ u H'=>∃x:HL × HL,H'=ap [] [x.1,x.2] /\ (u=vI 0 /\ RingH rb mb w (eE w M a ms t).2.1 (eE w M a ms t).2.2 x.1 /\ MemH mb (eE w M a ms t).1 k2 x.2)):=by
 have hw_:BD a ms+1=(t:Int):=by unfold BD;rw[if_neg (by rintro rfl;simp at hn;omega)];omega
 refine aat Tryz.func77 rfl mn (A:=[(rb,.lit [vP mb 0,vI (w:Int),.slice A n cap] 169 (0,0))]) (Ts:=[Hl,T]) rfl λ w0=>?_;refine ae 12 [] λ _=>aal ((t:Int)<0) 7 (λ h1=>?_) λ h1=>?_
 ·(exfalso;omega)
 ·refine ae 13 [.own 0] λ _=>aal ((n:Int)>0) 14 (λ h2=>?_) λ h2=>?_
  ·refine ae 2 [] λ _=>aah (BE (rb:=rb) (mb:=mb) (w:=w) hs (au 0) hn WA (av 0))<|aj 5 [.nw] [bx ((BD a ms)+1)] λ _=>aam ((t:Int)=(BD a ms)+1) 20 (λ h3=>?_) λ h3=>?_
   ·refine ae 4 [] λ _=>aak [13,16] []<|ag [] [0,1,5,6,2,7,3,8,4,9] (aab 2)<|aac [] 10 (λ X_=>(vB hM (aK 1) hb))<|ag [] [11] []<|aae 12 (aag [] [] λ n5=>?_);refine aae 13 (RDO.appX [] LT (p6 a ms) [((t:Int),(M.base+(M.lg.length:Int)))] 0 0 (hn.trans (kg a ms).symm) hs (by rw[kg];simp;omega) ?_);rintro A6 c7 T8 ⟨hs9,ajo⟩;refine ag [] [14,15] []<|aae 16 (aag [] [.own 1] λ _=>?_);refine aad<|ae 3 [] λ _=>?_;have RA:SlX kS 188 (p6 a (ms++[(M.base+(M.lg.length:Int))])) A6 c7 T8:=by
     rw[wu,<- hn,<- ht];exact hs9
    clear hs9;refine ae 19 [.own 1,.own 1] λ _=>aal ((((n+1):Nat):Int)>(w:Int)) 47 (λ SW=>?_) λ SW=>?_
    ·refine ae 2 [] λ _=>?_;have WV:=RA;obtain⟨b1,o1,M1,f1,rfl,rfl,XV,hM1,ZS,YZ,TO⟩:=uH RA (by simp);rw[abi,List.length_singleton,<- hn] at ZS;refine sT 0 (x:=(b1,.rows 2 M1 (aQ kS f1) 188 (0,0))) ?_;have hm_:=ue hr (i:=1) (by omega);have afl:((ms++[(M.base+(M.lg.length:Int))]).getD 1 0-M.base).toNat <= M.lg.length:=by omega
     have afk:(ms++[(M.base+(M.lg.length:Int))]).getD 1 0=M.base+((((ms++[(M.base+(M.lg.length:Int))]).getD 1 0-M.base).toNat:Nat):Int):=by omega
     refine ae 8 [.own 2] λ _=>zA (A:=some ⟨b1,o1*2,none⟩) (n:=(n+1)) (cap:=c7) (l:=1) (h:=n+1) (m:=n+1) (sz:=2) (li:=some 1) (hi:=some (((n+1):Nat):Int)) (mi:=some (((n+1):Nat):Int)) rfl rfl rfl (by omega) (by omega) ZS<|aN 55 (congrArg (λ v_=>(.slice v_ (n+1-1) (n+1-1):Value)) (IV (b:=b1) (o:=o1) (wd:=2) (l:=1) (m:=n+1) (by omega)))<|ae 5 [.own 2] λ _=>aak [11] []<|aD [] [0,4,1,5,2,6,3,7,8,9,10] [.own 2,.own 2,.ix 0,.row 0 ((o1+1)+0) 1] [(((o1+1)*2+0*2)+1)=((o1+1)+0)*2+1 /\ ((o1+1)+0)<M1,0=((0:Nat):Int) /\ 0<(n+1-1)]<|iV 68 (congrArg (λ v_=>(vI v_:Value)) (congrArg Prod.snd (TO 1 (by simp;omega))))<|aae 11 (aaf [] [] [0] (NZ (n0:=((ms++[(M.base+(M.lg.length:Int))]).getD 1 0-M.base).toNat) (k2:=k2) _ hM hb afl TZ afk) ?_);rintro _ ZC ⟨rfl,Wm⟩;refine aad<|ae 6 [] λ _=>aap [] [2,0] [0] (v:=vI 0) (H':=(ap [(rb,.lit [vP mb 0,vI (w:Int),vS b1 ((o1+1)*2) (n+1-1) (n+1-1)] 169 (0,0)),(b1,.rows 2 M1 (aQ kS f1) 188 (0,0))] [ZC])) ?_;rw[AQ M (by omega) (by rintro rfl;simp at hn;omega)];have Wy:=WV.cut (k:=1) (h:=n+1) (m:=n+1) (by omega) (by rw[kg];simp;omega) (by omega) ZS;rw[List.take_of_length_le (by rw[kg];simp;omega),EI] at Wy;have ZU:zz (some ⟨b1,o1*2,none⟩) 1 2 (n+1)=some ⟨b1,(o1+1)*2,none⟩:=IV (by omega);rw[show kS.w=2 from rfl,ZU] at Wy;exact⟨(_,_),by simp[ap],rfl,.mk (n:=n+1-1) Wy (by simp;omega) (λ e_=>by have h_:=congrArg List.length e_;rw[abq,abi,List.length_singleton,List.length_nil] at h_;omega),Wm⟩
    ·refine ae 8 [] λ _=>aap [] [1] [0,1] (v:=vI 0) (H':=(ap [(rb,.lit [vP mb 0,vI (w:Int),.slice A6 (n+1) c7] 169 (0,0))] [T8,T])) ?_;rw[IW M (by omega) (by rintro rfl;simp at hn;omega)];exact⟨(_,_),by simp[ap],rfl,.mk (n:=n+1) RA (by simp;omega) (λ e_=>by simp at e_),hM.weak TZ⟩
   ·(exfalso;omega)
  ·(exfalso;omega)
theorem SlX.take{α:Type}{e:Enc α}{T:TypeId}{l:List α}{A:Option Addr}{cap:Nat}{Hl:HL}(h:SlX e T l A cap Hl)(k:Nat):SlX e T (l.take k) A cap Hl:=by
 rcases h with ⟨rfl,rfl,rfl,rfl⟩|⟨b,o,M,full,h1,h2,h3,h3',h4,h5⟩
 ·rw[List.take_nil];exact SlX.nil _ _
 ·refine .inr ⟨b,o,M,full,h1,h2,h3,h3',by rw[abk];omega,?_⟩;rw[abk]
  conv=>rhs;rw[<- h5]
  rw[List.take_take]
theorem N0{mb n0 k k2:Nat}{M:MemS}{T:HL}(F:HL)(h:MemH mb M k T)(hk:k2 <= k)(hb:0 <= M.base /\ M.base <= 1000000000)(Sd:n0 <= M.lg.length)(RG:∀e∈M.lg.drop n0,0 <= e.1 /\ e.1<(M.cs.length:Int)){v:Int}(hv:v=M.base+(n0:Int)):Sp Tryz.prog 82 #[vP mb 0,vI v] (ap [] [T]) F (λ u H'=>∃x,H'=ap [] [x] /\ (u=vI 0 /\ MemH mb (lz M n0) k2 x)):=by
 subst hv;exact IU F h hk hb Sd RG
theorem Ls(rb mb w cap x k k2 n a b1 o1 M1:Nat)(f1:List (Int × Int))(ms:List Int)(M:MemS)(T F:HL)(hs:SlX kS 188 (p6 a ms) (some ⟨b1,o1*2,none⟩) cap [(b1,.rows 2 M1 (aQ kS f1) 188 (0,0))])(hn:n=ms.length)(TK:1 <= n)(WA:n <= 100000000)(hx:a <= x /\ x<a+n)(XJ:x <= 1000000)(hcap:n <= cap)(hM1:o1+cap <= M1)(hg:∀k,k<n -> f1.getD (o1+k) kS.dflt=(((a+k:Nat):Int),ms.getD k 0))(hr:M.base <= (ms.getD (x-a) 0) /\ (ms.getD (x-a) 0) <= (M.base+(M.lg.length:Int)))(RG:∀e∈M.lg.drop ((ms.getD (x-a) 0)-M.base).toNat,0 <= e.1 /\ e.1<(M.cs.length:Int))(hM:MemH mb M k T)(hb:0 <= M.base /\ M.base <= 1000000000)(TZ:k2 <= k):Sp Tryz.prog 74 #[vP rb 0,vI (x:Int)] (ap [(rb,.lit [vP mb 0,vI (w:Int),vS b1 (o1*2) n cap] 169 (0,0)),(b1,.rows 2 M1 (aQ kS f1) 188 (0,0))] [T]) F (λ u H'=>∃y:HL × HL,H'=ap [] [y.1,y.2] /\ (u=vI 0 /\ RingH rb mb w a (ms.take (x-a+1)) y.1 /\ MemH mb (lz M ((ms.getD (x-a) 0)-M.base).toNat) k2 y.2)):=by
 have VS:(f1.getD (o1+(x-a)) kS.dflt).1=(x:Int):=by rw[hg _ (by omega)];show ((a+(x-a):Nat):Int)=x;omega
 have UK:∀k,k<x-a -> ¬ (f1.getD (o1+k) kS.dflt).1=(x:Int):=by intro k hk;rw[hg _ (by omega)];show ¬ ((a+k:Nat):Int)=x;omega
 have aj3:(f1.getD (o1+(n-1)) kS.dflt).1=((a+(n-1):Nat):Int):=by rw[hg _ (by omega)]
 have aj1:(f1.getD o1 kS.dflt).1=((a+0:Nat):Int):=by have h_:=hg 0 (by omega);rw[Nat.add_zero] at h_;rw[h_]
 refine aat Tryz.func74 rfl mn (A:=[(rb,.lit [vP mb 0,vI (w:Int),vS b1 (o1*2) n cap] 169 (0,0)),(b1,.rows 2 M1 (aQ kS f1) 188 (0,0))]) (Ts:=[T]) rfl λ w0=>?_;refine ae 8 [] λ n1=>aak [] []<|ag [] [0,1,2,3,4,5,6] [.own 1]<|RD.em ((n:Int)=0) 13 (λ h2=>?_) λ h2=>?_
 ·(exfalso;omega)
 ·refine ag [] [7,8] [.own 0]<|aac [] 9 (λ X_=>(FO rb mb b1 o1 M1 n cap w f1 _ (fB 1) (fB 2) TK (by omega) WA))<|ag [] [10,11] []<|aad<|ae 1 [] λ _=>aal ((x:Int)<(f1.getD o1 kS.dflt).1) 18 (λ h3=>?_) λ h3=>?_
  ·(exfalso;omega)
  ·refine ae 5 [] λ _=>aak [] []<|ag [] [0,1] [.own 0]<|aac [] 2 (λ X_=>(wx rb mb b1 o1 M1 n cap w f1 _ (fB 1) (fB 2) TK (by omega) WA))<|ag [] [3] []<|aad<|ae 1 [] λ _=>aal ((x:Int)>(f1.getD (o1+(n-1)) kS.dflt).1) 22 (λ h4=>?_) λ h4=>?_
   ·(exfalso;omega)
   ·refine ae 10 [.own 1] λ _=>aah (J3 b1 o1 M1 n cap (n1+0) (x-a) (x:Int) f1 _ (av 0) (av 2) (by omega) WA (by omega) VS UK)<|ae 5 [] λ _=>aak [12] []<|aD [] [0,4,8,1,5,2,6,3,7,9,10,11] [.own 1,.own 1,.ix (x-a),.row 2 (o1+(x-a)) 1] [((o1*2+(x-a)*2)+1)=(o1+(x-a))*2+1 /\ (o1+(x-a))<M1,((x-a:Nat):Int)=(((x-a):Nat):Int) /\ (x-a)<n]<|iV 40 (congrArg (λ v_=>(vI v_:Value)) (congrArg Prod.snd (hg (x-a) (by omega))))<|aae 12 (aaf [] [] [0] (N0 (n0:=((ms.getD (x-a) 0)-M.base).toNat) (k2:=k2) _ hM TZ hb (by omega) RG (show (ms.getD (x-a) 0)=M.base+((((ms.getD (x-a) 0)-M.base).toNat:Nat):Int) by omega)) ?_);rintro _ T5 ⟨rfl,R1⟩;refine ag [] [13] []<|aad<|aj 30 [.own 1,.nw,.sl 0 ((x-a)+1) false,.own 1] [0=0 /\ ((x-a:Nat):Int)+1=((((x-a)+1):Nat):Int) /\ 0 <= ((x-a)+1) /\ ((x-a)+1) <= cap /\ cap≠0,bx (((x-a:Nat):Int)+1)] λ _=>aap [] [1,2] [0] (v:=vI 0) (H':=(ap [(rb,.lit [vP mb 0,vI (w:Int),vS b1 (o1*2+0*2) (((x-a)+1)-0) (cap-0)] 169 (0,0)),(b1,.rows 2 M1 (aQ kS f1) 188 (0,0))] [T5])) ?_;have Wy:=hs.take (x-a+1);rw[wv] at Wy;exact⟨(_,_),by simp[ap],rfl,.mk (n:=x-a+1) Wy (by rw[abk];omega) (λ e_=>by have h_:=congrArg List.length e_;rw[abk,List.length_nil] at h_;omega),R1⟩
theorem IY{rb mb w a t k k2:Nat}{ms:List Int}{M:MemS}{G T:HL}(F:HL)(hG:RingH rb mb w a ms G)(ht:ms≠[] -> t=a+ms.length)(hr:∀k∈ms,M.base <= k /\ k <= M.base+(M.lg.length:Int))(hM:MemH mb M k T)(hb:0 <= M.base /\ M.base <= 1000000000)(hw:1 <= w /\ w <= 13)(TZ:k2 <= k)(WT:t <= 1000000)(hl:ms.length <= 100000000):Sp Tryz.prog 77 #[vP rb 0,vI (t:Int)] (ap [] [G,T]) F (λ u H'=>∃x:HL × HL,H'=ap [] [x.1,x.2] /\ (u=vI 0 /\ RingH rb mb w (eE w M a ms t).2.1 (eE w M a ms t).2.2 x.1 /\ MemH mb (eE w M a ms t).1 k2 x.2)):=by
 cases hG with
 | @mk A cap n Hl hs hn h0 =>
  by_cases e:ms=[]
  ·obtain⟨rfl,rfl,rfl⟩:=h0 e;subst e;obtain rfl:n=0:=hn;have h:=IX rb mb w 0 t k k2 M T F hM hb hw TZ WT;rw[o8 M 0 t hw.1] at h;rw[o8 M a t hw.1];simpa [ap] using h
  ·have hp:1 <= n:=by
    cases ms with
    | nil=>exact absurd rfl e
    | cons _ _=>rw[hn];simp
   have h:=EJ rb mb w cap t k k2 M n a ms A Hl T F hs hn hp (by omega) (by rw[hn];exact ht e) hr hM hb hw TZ WT;simpa [ap] using h
theorem Lt{rb mb w a x k k2:Nat}{ms:List Int}{M:MemS}{G T:HL}(F:HL)(hG:RingH rb mb w a ms G)(hx:a <= x /\ x<a+ms.length)(XJ:x <= 1000000)(hl:ms.length <= 100000000)(hr:M.base <= ms.getD (x-a) 0 /\ ms.getD (x-a) 0 <= M.base+(M.lg.length:Int))(RG:∀e∈M.lg.drop (ms.getD (x-a) 0-M.base).toNat,0 <= e.1 /\ e.1<(M.cs.length:Int))(hM:MemH mb M k T)(hb:0 <= M.base /\ M.base <= 1000000000)(TZ:k2 <= k):Sp Tryz.prog 74 #[vP rb 0,vI (x:Int)] (ap [] [G,T]) F (λ u H'=>∃y:HL × HL,H'=ap [] [y.1,y.2] /\ (u=vI 0 /\ RingH rb mb w a (ms.take (x-a+1)) y.1 /\ MemH mb (lz M (ms.getD (x-a) 0-M.base).toNat) k2 y.2)):=by
 cases hG with
 | @mk A cap n Hl hs hn h0 =>
  have e:ms≠[]:=by rintro rfl;simp at hx;omega
  have hs2:=hs;obtain⟨b,o,M1,full,rfl,rfl,h3,h4,h5,h6,h7⟩:=uH hs e;have h:=Ls rb mb w cap x k k2 n a b o M1 full ms M T F hs2 hn (by omega) (by omega) (by omega) XJ (by omega) h4 (λ k hk=>h7 k (by omega)) hr RG hM hb TZ;simpa [ap] using h
theorem yE{α:Type}{d:α}{l m:List α}(h1:l.length=m.length)(h2:∀k,k<l.length -> l.getD k d=m.getD k d):l=m:=by
 apply List.ext_getElem h1;intro i h3 h4;have:=h2 i h3;rwa [aaJ,aaJ,abt h3,abt h4] at this
theorem Cz{x y:Inp}(h1:x.dx=y.dx)(h2:x.dy=y.dy)(h3:x.act=y.act):x=y:=by cases x;cases y;simp_all
theorem Lu{ρ:Type}{w now:Nat}{S:PS ρ}(h:¬ (S.ms≠[] /\ S.a+S.ms.length=now+1)):((ee w S now).M,(ee w S now).a,(ee w S now).ms)=eE w S.M S.a S.ms now:=by
 unfold ee eE;rw[if_neg h];dsimp only;split <;> rfl
theorem vE{a now:Nat}{ms:List Int}:BD a ms=(now:Int)↔(ms≠[] /\ a+ms.length=now+1):=by
 unfold BD;split
 ·next e=>subst e;simp
 ·next e =>
  constructor
  ·intro h;exact⟨e,by omega⟩
  ·rintro⟨_,h⟩;omega
theorem PInv.marks{ρ:Type}{g:Nat -> ρ -> Gm}{c0:List Int}{w m:Nat}{S:PS ρ}{V:List ρ}(h:PInv g c0 w S V m):∀k∈S.ms,S.M.base <= k /\ k <= S.M.base+(S.M.lg.length:Int):=by
 intro k hk;obtain⟨i,hi,rfl⟩:=List.mem_iff_getElem.1 hk;have h1:=h.rst i _ (abt hi);exact⟨h1.lo,h1.hi⟩
def j6(x:Inp):Inp:=⟨x.dx,x.dy,0⟩
instance:DecidableEq Inp:=λ x y=>decidable_of_iff (x.dx=y.dx /\ x.dy=y.dy /\ x.act=y.act) ⟨λ h=>Cz h.1 h.2.1 h.2.2,λ h=>by rw[h];exact⟨rfl,rfl,rfl⟩⟩
theorem IZ(A B:Option Addr)(n c m d:Nat)(xs ys:List Inp)(F:HL)(hl:RowL cV 40 F A n xs)(RX:RowL cV 40 F B m ys)(hb:n <= 1000000):Sp Tryz.prog 73 #[.slice A n c,.slice B m d] [] F (λ u H'=>u=.bool (decide (xs=ys)) /\ H'=[]):=by
 have VM:=hl.len;have aeF:=RX.len;refine aat Tryz.func73 rfl mn (A:=[]) (Ts:=[]) rfl λ w0=>?_;refine ae 15 [] λ _=>aam ((n:Int)=(m:Int)) 10 (λ h1=>?_) λ h1=>?_
 ·refine ae 12 [] λ _=>aan (σ:=Nat) (λ k_=>⟨[(0,.slice A n c),(1,.slice B m d),(12,vI (n:Int)),(13,vI (k_:Int))],[],[],k_ <= n /\ ∀j,j<k_ -> xs.getD j dI=ys.getD j dI,n-k_⟩) 0 [] [] (⟨aa9 _,λ j hj=>absurd hj (Nat.not_lt_zero _)⟩) ?_;rintro k_ ⟨VQ,R_⟩ RF;refine ae 6 [] λ _=>aal ((k_:Int)<(n:Int)) 14 (λ h4=>?_) λ h4=>?_
  ·refine ae 12 [] λ _=>aak [] []<|ag [] [0,1,4,5] [] ?_;obtain⟨aiZ,R8,ZE,alw,ah7,acg,XP,ahh,aby⟩:=hl.at (k:=k_) (by omega);refine iV 16 (congrArg (λ v_=>(.slice v_ n c:Value)) acg)<|RD.ro (λ _=>(mc XP mn)) ?_;obtain⟨aiY,R7,ZD,alv,ah6,acf,aa5,ahg,abx⟩:=RX.at (k:=k_) (by omega);refine iV 20 (congrArg (λ v_=>(.slice v_ m d:Value)) acf)<|RD.ro (λ _=>(mc XP (mc aa5 mn)))<|aD [] [2,6,3,7] [.ix k_,.ix k_,.rorow 0 (R8+k_) 0,.rorow 0 (R8+k_) 1,.rorow 0 (R8+k_) 2,.rorow 1 (R7+k_) 0,.rorow 1 (R7+k_) 1,.rorow 1 (R7+k_) 2] [((R7*3+k_*3)+2)=(R7+k_)*3+2 /\ (R7+k_)<ZD,((R7*3+k_*3)+1)=(R7+k_)*3+1 /\ (R7+k_)<ZD,(R7*3+k_*3)=(R7+k_)*3+0 /\ (R7+k_)<ZD,((R8*3+k_*3)+2)=(R8+k_)*3+2 /\ (R8+k_)<ZE,((R8*3+k_*3)+1)=(R8+k_)*3+1 /\ (R8+k_)<ZE,(R8*3+k_*3)=(R8+k_)*3+0 /\ (R8+k_)<ZE,(k_:Int)=((k_:Nat):Int) /\ k_<m,(k_:Int)=((k_:Nat):Int) /\ k_<n]<|iV 19 (congrArg (λ v_=>(.agg #[vI v_.dx,vI v_.dy,vI v_.act]:Value)) aby)<|iV 23 (congrArg (λ v_=>(.agg #[vI v_.dx,vI v_.dy,vI v_.act]:Value)) abx)<|ag [] [8] [.sq]<|aad<|ae 1 [] λ _=>qu ((decide ((xs.getD k_ dI).dx=(ys.getD k_ dI).dx) && (decide ((xs.getD k_ dI).dy=(ys.getD k_ dI).dy) && (decide ((xs.getD k_ dI).act=(ys.getD k_ dI).act) && true)))) 24 (λ h5=>?_) λ h5=>?_
   ·refine aj 8 [.nw] [bx ((k_:Int)+1)] λ _=>?_;refine RF (k_+1) [] [] ?_
    try dsimp only
    have UT:=h5;simp only[ab1,decide_eq_true_eq] at UT;refine⟨⟨by omega,λ j hj=>?_⟩,by omega⟩
    by_cases ej:j=k_
    ·rw[ej];exact Cz UT.1 UT.2.1 UT.2.2.1
    ·exact R_ j (by omega)
   ·refine ae 6 [] λ _=>aap [] [] [] (v:=.bool false) (H':=[]) ?_;exact⟨by rw[aco (λ e_=>h5 (by rw[e_];simp))],rfl⟩
  ·refine ae 11 [] λ _=>aap [] [] [] (v:=.bool true) (H':=[]) ?_;obtain rfl:k_=n:=by omega
   exact⟨by rw[acr (yE (by omega) (λ k hk=>R_ k (by omega)))],rfl⟩
 ·refine ae 6 [] λ _=>aap [] [] [] (v:=.bool false) (H':=[]) ?_;exact⟨by rw[aco (λ e_=>h1 (by rw[<- VM,e_,aeF]))],rfl⟩
theorem I0(x:Inp)(F:HL):Sp Tryz.prog 75 #[.agg #[vI x.dx,vI x.dy,vI x.act]] [] F (λ u H'=>u=.agg #[vI (j6 x).dx,vI (j6 x).dy,vI (j6 x).act] /\ H'=[]):=by
 refine aat Tryz.func75 rfl mn (A:=[]) (Ts:=[]) rfl λ w0=>?_;refine ae 18 [.own 1,.own 1,.own 1,.own 1,.own 0,.own 0,.own 0] λ n1=>?_;exact aap (aab 3) [] [] ⟨rfl,rfl⟩
theorem GameH.op{rs:List Bx}{ds:List Dr}{bp gb:Nat}{S:Setup}{M:MemS}{k:Nat}{G:HL}(h:GameH rs ds bp gb S M k G):∃mb T U,MemH mb M k T /\ tC S rs ds U /\ G=ap [(gb,.lit (dC S bp mb) 121 (0,0))] [T,U]:=by
 cases h with
 | mk mb T U hM hU=>exact⟨mb,T,U,hM,hU,rfl⟩
theorem EK{rs:List Bx}{ds:List Dr}{S:Setup}{bp gb mb b o N c k:Nat}{j:Nat × Int}{full xs:List Inp}{M:MemS}{T U F:HL}(now:Int)(hM:MemH mb M (k+20000) T)(hU:tC S rs ds U)(Sl:M.get 0=now)(hj:j.1<5)(hA:AtOk F bp (M.get 0) j)(hE:cG F)(hI:(b,.rows 3 N (kK full) 40 (0,0))∈F)(hir:o+xs.length <= N)(SE:xs.length <= 1000000)(hx:∀k,k<xs.length -> full.getD (o+k) dI=xs.getD k dI)(hk:TkOk S j xs M \/ ¬ dL S.players xs.length xs now=0) :
  Sp Tryz.prog 57 #[vP gb 0,vS b (o*3) xs.length c] (ap [(gb,.lit (dC S bp mb) 121 (0,0))] [T,U]) F (λ u H'=>∃x:(Option Addr × Nat × Nat) × HL × HL,H'=ap [(gb,.lit (dC S bp mb) 121 (0,0))] [x.2.1,U,x.2.2] /\
   ((TkOk S j xs M /\ MemH mb (gm (kR S j xs) M) k x.2.1 /\ SlIs nP 111 (my (kR S j xs) M) x.1.1 x.1.2.1 x.2.2 /\ u=.tuple #[.slice x.1.1 (my (kR S j xs) M).length x.1.2.1,vI ((x.1.2.2+1:Nat):Int),vI 0]) \/
    (¬ dL S.players xs.length xs now=0 /\ MemH mb M k x.2.1 /\ u=.tuple #[.slice none 0 0,vI 0,vI (dL S.players xs.length xs now)]))):=by
 subst Sl;have hl:RowL cV 40 F (some ⟨b,o*3,none⟩) xs.length xs:=.rows b o N full (0,0) _ xs hI hir rfl hx;rcases hk with hk|hk
 ·obtain⟨m,hm,hg⟩:=hk.ex;obtain⟨e1,e2⟩:=IH hm hg;refine(yv S rs ds bp gb mb b o N xs.length c m k j full xs M T U F hj hA hU hE hI hir SE (by omega) rfl hx (hM.weak (by omega)) hk.now hg hk.ok).mono λ u H' h=>?_;obtain⟨⟨T1,A,cc,E⟩,rfl,h1,h2,h3⟩:=h;dsimp only at h1 h2 h3;rw[e1] at h1;rw[e2] at h2 h3;exact⟨((A,cc,m),T1,E),rfl,.inl ⟨hk,h1,h2,h3⟩⟩
 ·refine(EF _ S bp gb mb xs.length c (k+20000) (some ⟨b,o*3,none⟩) xs M T U F hl SE hM rfl hk).mono λ u H' h=>?_;obtain⟨rfl,rfl⟩:=h;exact⟨((none,0,0),T,[]),by simp[ap],.inr ⟨hk,hM.weak (by omega),rfl⟩⟩
def Q9(S:Setup)(J:Nat -> Nat × Int)(n:Nat)(xss:List (List Inp))(u:Value)(x:(Setup × Nat × Option Addr × Nat) × HL × HL):Prop :=
 SetEq S x.1.1 /\ (((∀i,i<n -> TkOk x.1.1 (J i) (xss.getD i []) (kV (rG x.1.1 J xss) ⟨br S S.nb,[],0⟩ i)) /\ x.2.1=[(x.1.2.1,.rows 1 (kV (rG x.1.1 J xss) ⟨br S S.nb,[],0⟩ n).cs.length (aU (kV (rG x.1.1 J xss) ⟨br S S.nb,[],0⟩ n).cs) 3 (0,0))] /\
   SlIs nP 111 (plE (rG x.1.1 J xss) ⟨br S S.nb,[],0⟩ n) x.1.2.2.1 x.1.2.2.2 x.2.2 /\ u=.tuple #[vS x.1.2.1 0 (kV (rG x.1.1 J xss) ⟨br S S.nb,[],0⟩ n).cs.length (kV (rG x.1.1 J xss) ⟨br S S.nb,[],0⟩ n).cs.length,.slice x.1.2.2.1 (plE (rG x.1.1 J xss) ⟨br S S.nb,[],0⟩ n).length x.1.2.2.2,vI 0]) \/
  (∃i,i<n /\ (∀k,k<i -> TkOk x.1.1 (J k) (xss.getD k []) (kV (rG x.1.1 J xss) ⟨br S S.nb,[],0⟩ k)) /\ ¬ dL x.1.1.players (xss.getD i []).length (xss.getD i []) ((kV (rG x.1.1 J xss) ⟨br S S.nb,[],0⟩ i).get 0)=0 /\
   u=.tuple #[.slice none 0 0,.slice none 0 0,vI (dL x.1.1.players (xss.getD i []).length (xss.getD i []) ((kV (rG x.1.1 J xss) ⟨br S S.nb,[],0⟩ i).get 0))]))
theorem Lv(S:Setup)(rs_:List Bx)(ds_:List Dr)(bp n cap:Nat)(J:Nat -> Nat × Int)(A:Option Addr)(rs:List Rw)(xss:List (List Inp))(F:HL)(hS:SetIn F S)(hM:MapIn F S rs_ ds_)(h1:1 <= S.nb)(RV:S.rn <= 1000000)(UM:S.dn <= 1000000)(IT:(sizeOf S).toNat <= 1000000)(hv:ln S rs_ ds_=0)(hE:cG F)(hr:RowL jH 38 F A n rs)(hw:RwsIn F rs xss)(hxl:∀k,k<n -> (xss.getD k []).length <= 1000000)(hn:n <= 50)(h9:n <= 900)(hP:∀S2,SetEq S S2 -> ∀i,i<n -> (∀k,k<i -> TkOk S2 (J k) (xss.getD k []) (kV (rG S2 J xss) ⟨br S S.nb,[],0⟩ k)) -> (TkOk S2 (J i) (xss.getD i []) (kV (rG S2 J xss) ⟨br S S.nb,[],0⟩ i) \/ ¬ dL S2.players (xss.getD i []).length (xss.getD i []) ((kV (rG S2 J xss) ⟨br S S.nb,[],0⟩ i).get 0)=0) /\ (J i).1<5 /\ AtOk F bp ((kV (rG S2 J xss) ⟨br S S.nb,[],0⟩ i).get 0) (J i)):Sp Tryz.prog 32 #[Setup.v S,vP bp 0,.slice A n cap] (ap [] []) F (λ u H'=>∃x:(Setup × Nat × Option Addr × Nat) × HL × HL,H'=ap [] [x.2.1,x.2.2] /\ Q9 S J n xss u x):=by
 refine aat Tryz.func32 rfl mn (A:=[]) (Ts:=[]) rfl λ w0=>?_;refine ae 12 (ow 0 16) λ n1=>aai (Hp:=[]) (Tp:=[]) [] [] (rd S rs_ ds_ bp _ hS.up.cl hM.up h1 RV UM IT hv 99020000 (by decide)) ?_;rintro _ ⟨g2,S3,T4⟩ ⟨rfl,XW,hG6⟩;dsimp only at XW hG6;obtain⟨mb,Tm,U,hMm,hU,eG⟩:=hG6.op;refine MD 0 [(g2,.lit (dC S3 bp mb) 121 (0,0))] [Tm,U] eG<|ae 31 [] λ _=>aao<|aan (σ:=Nat × Option Addr × Nat × MemS × HL × HL) (λ ⟨i_,A_,c_,N_,T_,E_⟩=>⟨[(9,vP g2 0),(11,.slice A_ ((plE (rG S3 J xss) ⟨br S S.nb,[],0⟩ i_).length) c_),(26,.slice A n cap),(27,vI (n:Int)),(28,vI (i_:Int))],[(g2,.lit (dC S3 bp mb) 121 (0,0)),((n1+0),.lit (Setup.l S) 31 (0,0))],[T_,E_,U],i_ <= n /\ N_.cs=(kV (rG S3 J xss) ⟨br S S.nb,[],0⟩ i_).cs /\ MemH mb N_ 99020000 T_ /\ (0 <= N_.base /\ N_.base <= 1000000*(i_:Int)) /\ SlIs nP 111 (plE (rG S3 J xss) ⟨br S S.nb,[],0⟩ i_) A_ c_ E_ /\ (∀k,k<i_ -> TkOk S3 (J k) (xss.getD k []) (kV (rG S3 J xss) ⟨br S S.nb,[],0⟩ k)),n-i_⟩) (0,none,0,⟨br S S.nb,[],0⟩,Tm,[]) [0,1] [1,0,2] (⟨aa9 _,rfl,hMm,⟨Int.le_refl 0,by show (0:Int) <= _;omega⟩,aas _ _,λ k hk=>absurd hk (Nat.not_lt_zero _)⟩) ?_;rintro⟨i_,A_,c_,N_,T_,E_⟩ ⟨VS,RO,hT_,abN,RA,R_⟩ mt8;refine ae 6 [] λ _=>aal ((i_:Int)<(n:Int)) 29 (λ h9=>?_) λ h9=>?_
 ·refine ae 7 [] λ _=>?_;obtain⟨ai1,WJ,agv,aly,ah9,X3,aa7,ahj,abA⟩:=hr.at (k:=i_) (by omega);refine aN 26 (congrArg (λ v_=>(.slice v_ n cap:Value)) X3)<|RN.ro (λ _=>(mc aa7 mn))<|aj 2 [.ix i_,.rorow 0 (WJ+i_) 0] [(WJ*1+i_*1)=(WJ+i_)*1+0 /\ (WJ+i_)<agv,(i_:Int)=((i_:Nat):Int) /\ i_<n] λ _=>aN 31 (congrArg (λ v_=>(.slice v_.A v_.n v_.c:Value)) abA) ?_;obtain⟨alM,ai7,al1,alz,agi,agb,ab4,abu,aaI,ahM⟩:=hw.get (k:=i_) (by rw[hr.len];omega);refine aN 31 (congrArg (λ v_:Rw=>Value.slice v_.A v_.n v_.c) agb)<|ae 7 [] λ _=>?_;have Zi:=hP S3 XW i_ (by omega) R_;refine aai [0] [0,2] (EK (gb:=g2) (mb:=mb) (c:=agi) (k:=99000000) (rs:=rs_) (ds:=ds_) (S:=S3) ((kV (rG S3 J xss) ⟨br S S.nb,[],0⟩ i_).get 0) (hT_.weak (by decide)) hU (oZ RO 0) Zi.2.1 ((show AtOk F bp (N_.get 0) (J i_) by rw[oZ RO];exact Zi.2.2).mono λ x hx=>az hx) (az hE) (az ab4) abu (by have:=hxl i_ (by omega);omega) aaI (Zi.1.imp (λ h_=>h_.cs RO.symm) id)) ?_;rintro _ ⟨⟨A12,Zy,ZH⟩,Sy,E16⟩ (⟨W9,RE,aaY,rfl⟩|⟨W9,RE,rfl⟩)
  ·dsimp only at RE aaY;refine ae 23 [] λ _=>RN.appU (c':=Zy) (tx:=58) zN (plE (rG S3 J xss) ⟨br S S.nb,[],0⟩ i_) (my (kR S3 (J i_) (xss.getD i_ [])) N_) 3 rfl RA (by have X4:=Cv (rG S3 J xss) ⟨br S S.nb,[],0⟩ i_;have R5:=Cu (kR S3 (J i_) (xss.getD i_ [])) N_;omega) (aaY.src zN (by decide) (au 2)) ?_;rintro A20 c21 Vp ⟨Yv,ajl⟩;refine ae 3 [] λ _=>aak [9] []<|ag [] [0,4,1,5,2,6,3,7] (aab 2) ?_;have abM:0 <= (gm (kR S3 (J i_) (xss.getD i_ [])) N_).base /\ (gm (kR S3 (J i_) (xss.getD i_ [])) N_).base <= 1000000000:=by rw[jb];omega
   refine aac [] 8 (λ X_=>(vB RE (aK 1) abM))<|aae 9 (aaf [] [] [1] (yw (k2:=99020000) _ RE abM (by decide)) ?_);rintro _ X9 ⟨rfl,U8⟩;refine aad<|aj 6 [.nw] [bx ((i_:Int)+1)] λ _=>aN 26 (congrArg (λ v_=>(.slice v_ n cap:Value)) X3.symm)<|aN 11 (congrArg (λ v_=>(.slice A20 v_ c21:Value)) (show (plE (rG S3 J xss) ⟨br S S.nb,[],0⟩ i_).length+(my (kR S3 (J i_) (xss.getD i_ [])) N_).length=(plE (rG S3 J xss) ⟨br S S.nb,[],0⟩ (i_+1)).length by rw[plE,abi,zZ _ RO])) ?_;refine mt8 (i_+1,A20,c21,⟨(gm (kR S3 (J i_) (xss.getD i_ [])) N_).cs,[],(gm (kR S3 (J i_) (xss.getD i_ [])) N_).base+((gm (kR S3 (J i_) (xss.getD i_ [])) N_).lg.length:Int)⟩,X9,Vp) [0,1] [0,1,2] ?_
   try dsimp only
   have SG:=RE.len2;refine⟨⟨by omega,?_,U8,⟨?_,?_⟩,?_,?_⟩,by omega⟩
   ·show (gm (kR S3 (J i_) (xss.getD i_ [])) N_).cs=_;rw[kV];exact uV _ RO
   ·show 0 <= (gm (kR S3 (J i_) (xss.getD i_ [])) N_).base+_;omega
   ·show (gm (kR S3 (J i_) (xss.getD i_ [])) N_).base+_ <= _;have Zc:=jb (kR S3 (J i_) (xss.getD i_ [])) N_;omega
   ·rw[plE,<- zZ _ RO];exact Yv
   ·intro k_ VQ;rcases abX k_ i_ with h_|h_
    ·exact R_ k_ h_
    ·obtain rfl:k_=i_:=by omega
     exact W9.cs RO
  ·dsimp only at RE;refine ae 16 [] λ _=>db 40 (nf (aco W9))<|ae 9 [] λ _=>aap [] [] [] (v:=.tuple #[.slice none 0 0,.slice none 0 0,vI (dL S3.players (xss.getD i_ []).length (xss.getD i_ []) ((kV (rG S3 J xss) ⟨br S S.nb,[],0⟩ i_).get 0))]) (H':=(ap [] [])) ?_;exact⟨((S3,0,none,0),[],[]),by simp[ap],XW,.inr ⟨i_,by omega,R_,W9,rfl⟩⟩
 ·refine ae 12 [.own 0] λ _=>aai (Hp:=[]) (Tp:=[]) [] [] (tj mb N_ 99020000 T_ _ hT_ (au 0)) ?_;rintro _ q27 rfl;refine ae 6 [] λ _=>aap [] [0] [1] (v:=.tuple #[vS q27 0 N_.cs.length N_.cs.length,.slice A_ ((plE (rG S3 J xss) ⟨br S S.nb,[],0⟩ i_).length) c_,vI 0]) (H':=(ap [(q27,.rows 1 N_.cs.length (aU N_.cs) 3 (0,0))] [E_])) ?_;obtain rfl:i_=n:=by omega
  refine⟨((S3,q27,A_,c_),[(q27,.rows 1 N_.cs.length (aU N_.cs) 3 (0,0))],E_),by simp[ap],XW,.inl ⟨R_,?_,RA,?_⟩⟩
  ·rw[<- RO]
  ·rw[<- RO]
theorem I1{n:Int}(h:mh n):0 <= qL n /\ qL n<1000:=b8 h 1000 (by decide)
theorem vF{n m:Int}(h0:0 <= n)(h1:n<m):aq n m=n:=by
 unfold aq;rw[if_neg (by omega)];exact Int.tmod_eq_of_lt h0 h1
theorem AR{n:Int}(h:mh n):cS (qL n)=cS n:=by
 have hb:=I1 h;have e:qL (qL n)=qL n:=vF hb.1 hb.2;unfold cS oG;rw[e]
theorem EL:∀k:Fin 1000,lm ⟨(cS ((k.1:Nat):Int)).1,(cS ((k.1:Nat):Int)).2,none,0⟩:=by decide +kernel
theorem I2{n:Int}(h:mh n)(A:Option Addr)(c:Nat):lm ⟨(cS n).1,(cS n).2,A,c⟩:=by
 have hb:=I1 h;have:=EL ⟨(qL n).toNat,by omega⟩;simp only at this;rw[Int.toNat_of_nonneg hb.1,AR h] at this;exact this
theorem N3(i:Nat):0 <= ([1024,1024,512,2048,0]:List Int).getD i 0 /\ ([1024,1024,512,2048,0]:List Int).getD i 0 <= 4096:=by
 rcases i with _|_|_|_|_|i
 all_goals first|decide|simp
section
variable {xs:List Int} {F:HL} {A:Option Addr} {n:Nat} {S:Setup} {T:HL}
theorem Lw(hl:ArgL F A n xs)(k:Nat)(B:Option Addr)(c:Nat):fV (tn xs k B c) ⟨-12000,-9000,12000,9000⟩:=by
 have h1:=im hl (4+2*k);have h2:=im hl (5+2*k);have h3:=N3 ((bM xs k / 5000) % 5).toNat
 simp only[fV,tn,tu,xr,and_true];rw[show kv xs (4+2*k)=bN xs k from rfl] at h1;rw[show kv xs (5+2*k)=bM xs k from rfl] at h2;refine⟨h3,⟨⟨?_,?_⟩,?_,?_⟩,⟨?_,?_⟩,⟨?_,?_⟩,⟨?_,?_⟩,?_,?_⟩ <;> omega
theorem I3(i:Nat):(jQ i:Int) <= 16 /\ ∀k,k<jQ i -> qY 3 ((kj i).getD k mS.dflt):=by
 rcases i with _|_|i
 ·exact⟨by decide,λ k hk=>absurd hk (Nat.not_lt_zero _)⟩
 ·exact⟨by decide,by decide⟩
 ·exact⟨by show ((2:Nat):Int) <= 16;decide,by show ∀k,k<2 -> qY 3 (([⟨0,2⟩,⟨1,2⟩]:List Dr).getD k mS.dflt);decide⟩
theorem EM(hl:ArgL F A n xs)(h:SetG xs S T):ln S qM (kj (kv xs 3 % 3).toNat)=0:=by
 have h1:=qi hl;have h2:=uX hl;have hn:=h.nb;have k0:=im hl 0;have k1:=im hl 1;have k2:=im hl 2;obtain⟨e1,e2,e3,e4,e5,e6,e7,e8⟩:=h.nums;obtain⟨⟨m1,m2⟩,-⟩:=h.maps;have hd:=I3 (kv xs 3 % 3).toNat
 unfold ln;rw[if_pos,if_pos,if_pos]
 ·intro k hk;obtain⟨B,c,hb⟩:=h.bod k hk;rw[hb,e1];exact Lw hl k B c
 ·refine⟨?_,?_,⟨?_,?_⟩,?_,?_⟩
  ·have hpl:=h.pl;simp only[jR,tu,xr,and_true,e2,e3,e4,e5,e6,e7,e8,hpl];refine⟨⟨?_,?_⟩,⟨?_,?_⟩,⟨?_,?_⟩,⟨⟨?_,?_⟩,?_,?_⟩,⟨?_,?_⟩,⟨⟨?_,?_⟩,?_,?_⟩,⟨?_,?_⟩,?_,?_⟩ <;> omega
  ·rw[e1];decide
  ·rw[m1];decide
  ·rw[m2];exact hd.1
  ·rw[m1];decide
  ·rw[m1,m2];exact hd.2
 ·intro k hk;obtain⟨B,c,hb⟩:=h.bod k hk;rw[hb];have:=im hl (4+2*k);exact I2 ⟨by show _ <= kv xs (4+2*k);omega,by show kv xs (4+2*k) <= _;omega⟩ B c
end
theorem Sp.den{P:Program}{f:FuncId}{args:Array Value}{H F F':HL}{R:Value -> HL -> Prop}(h:Sp P f args H F R)(e:eF F=eF F'):Sp P f args H F' R:=by
 have e2:∀X:HL,eF (X++F)=eF (X++F'):=λ X=>by simp only[eF,List.map_append] at e ⊢;rw[e]
 intro w hR;refine(h w (hR.den (e2 H).symm)).mono ?_;rintro e' w' ⟨v,H',h1,h2,h3,h4⟩;exact⟨v,H',h1,h2,h3.den (e2 H'),h4⟩
def ArgD(F:HL)(A:Option Addr)(n:Nat)(xs:List Int):Prop:=∃F',eF F'=eF F /\ ArgL F' A n xs
theorem ArgL.d{F F':HL}{A:Option Addr}{n:Nat}{xs:List Int}(h:ArgL F A n xs)(e:eF F=eF F'):ArgD F' A n xs:=⟨F,e,h⟩
theorem ArgD.up{F X:HL}{A:Option Addr}{n:Nat}{xs:List Int}(h:ArgD F A n xs):ArgD (X++F) A n xs:=by
 obtain⟨F',e,h⟩:=h;exact⟨X++F',by simp only[eF,List.map_append] at e ⊢;rw[e],h.up⟩
theorem ArgD.ex{F:HL}{A:Option Addr}{n:Nat}{xs:List Int}(h:ArgD F A n xs):∃F',ArgL F' A n xs:=by
 obtain⟨F',e,h⟩:=h;exact⟨F',h⟩
theorem ArgD.use{F:HL}{A:Option Addr}{n:Nat}{xs:List Int}(h:ArgD F A n xs){P:Program}{f:FuncId}{args:Array Value}{H:HL}{R:Value -> HL -> Prop}(k:∀F',ArgL F' A n xs -> Sp P f args H F' R):Sp P f args H F R:=by
 obtain⟨F',e,h⟩:=h;exact(k F' h).den e
noncomputable section
end
structure GF(xs:List Int)(S:Setup):Prop where
 pl:1 <= S.players /\ S.players <= 3
 nb:1 <= S.nb /\ S.nb <= 5
 rn:S.rn=3
 dn:S.dn <= 2
 sz:48 <= sizeOf S /\ sizeOf S <= 100
 val:ln S qM (kj (kv xs 3 % 3).toNat)=0
theorem N4{F:HL}{A:Option Addr}{n:Nat}{xs:List Int}(hl:ArgD F A n xs){S:Setup}{T:HL}(h:SetG xs S T):GF xs S:=by
 obtain⟨F',hl⟩:=hl.ex;have h1:=qi hl;have h2:=uX hl;have hn:=h.nb;have hp:=h.pl;obtain⟨⟨m1,m2⟩,-⟩:=h.maps;have hd:jQ (kv xs 3 % 3).toNat <= 2:=by
  generalize (kv xs 3 % 3).toNat=i;rcases i with _|_|i
  ·exact aa9 _
  ·exact aaN rfl
  ·exact aa0 2
 exact⟨by omega,by omega,m1,by omega,by unfold sizeOf;omega,EM hl h⟩
structure SetV(S:Setup):Prop where
 pl:1 <= S.players /\ S.players <= 3
 nb:1 <= S.nb /\ S.nb <= 5
 ro:1 <= S.rounds /\ S.rounds <= 3
 fu:0 <= S.fuel /\ S.fuel <= 60
theorem aO(M:MemS)(i v:Int):(M.set i v).cs.length=M.cs.length:=by
 unfold MemS.set;split <;> simp
theorem bE{M:MemS}{i v j:Int}(h:j≠i):(M.set i v).get j=M.get j:=by
 unfold MemS.set;split
 ·next hi =>
  unfold MemS.get;simp only[List.length_set];split
  ·next hj =>
   rw[aaJ,aaJ,List.getElem?_set_ne (by omega)]
  ·rfl
 ·rfl
theorem jz{M:MemS}{i v:Int}(h:0 <= i /\ i<M.cs.length):(M.set i v).get i=v:=by
 unfold MemS.set;rw[if_pos h];unfold MemS.get;simp only[List.length_set];rw[if_pos h,aaJ,List.getElem?_set_self (by omega)];rfl
theorem bX{M:MemS}{i v:Int}(h:48 <= M.cs.length)(h0:0 <= i)(h1:i<48)(j:Int):(M.set i v).get j=if j=i then v else M.get j:=by
 by_cases e:j=i
 ·rw[if_pos e,e,jz (by omega)]
 ·rw[if_neg e,bE e]
theorem od{S:Setup}(hp:0 <= S.players)(k:Int):af S k=-1 \/ (0 <= k /\ k<S.nb /\ af S k=48+4*S.players+8*k):=by
 unfold af;split
 ·exact .inl rfl
 ·split
  ·exact .inl rfl
  ·exact .inr ⟨by omega,by omega,rfl⟩
theorem uf{S:Setup}(k:Int):(ah S k=-1 /\ (k<0 \/ S.players <= k)) \/ (0 <= k /\ k<S.players /\ ah S k=48+4*k):=by
 unfold ah;split
 ·exact .inl ⟨rfl,by omega⟩
 ·split
  ·exact .inl ⟨rfl,by omega⟩
  ·exact .inr ⟨by omega,by omega,rfl⟩
structure Hi(P:Int)(M M':MemS):Prop where
 len:M'.cs.length=M.cs.length
 get:∀j,j<48+4*P -> M'.get j=M.get j
theorem Hi.refl{P:Int}{M:MemS}:Hi P M M:=⟨rfl,λ _ _=>rfl⟩
theorem Hi.set{P:Int}{A M:MemS}(h:Hi P A M){k:Int}(hk:48+4*P <= k)(v:Int):Hi P A (M.set k v):=⟨(aO _ _ _).trans h.len,λ j hj=>(bE (by omega)).trans (h.get j hj)⟩
theorem Hi.setB{S:Setup}(hp:0 <= S.players){A M:MemS}(h:Hi S.players A M){k c:Int}(hb:af S k >= 0)(hc:0 <= c)(v:Int):Hi S.players A (M.set (af S k+c) v):=by
 rcases od hp k with e|⟨h0,h1,e⟩
 ·omega
 ·exact h.set (by omega) v
structure Kp(P:Int)(M M':MemS):Prop where
 len:M'.cs.length=M.cs.length
 get:∀j,j <= 5 \/ (48 <= j /\ j<48+4*P) -> M'.get j=M.get j
theorem Kp.refl{P:Int}{M:MemS}:Kp P M M:=⟨rfl,λ _ _=>rfl⟩
theorem Kp.set{P:Int}{A M:MemS}(h:Kp P A M){k:Int}(hk:5<k /\ (k<48 \/ 48+4*P <= k))(v:Int):Kp P A (M.set k v):=⟨(aO _ _ _).trans h.len,λ j hj=>(bE (by omega)).trans (h.get j hj)⟩
theorem Kp.trans{P:Int}{A B C:MemS}(h:Kp P A B)(h':Kp P B C):Kp P A C:=⟨h'.len.trans h.len,λ j hj=>(h'.get j hj).trans (h.get j hj)⟩
structure Ef(M:MemS)(r:VR):Prop where
 yes:r.em=true -> r.e.t=M.get 0 /\ r.e.i=M.get 11 /\ M.get 11<40 /\ r.M.get 11=M.get 11+1
 no:r.em=false -> r.M.get 11=M.get 11
theorem Ra{op:Int}(h:1 <= op /\ op <= 21):(0 <= eP op /\ eP op <= 2) /\ (0 <= eQ op /\ eQ op <= 1):=by
 obtain⟨n,rfl⟩:=Int.eq_ofNat_of_zero_le (show 0 <= op by omega);have hn:n<22:=by omega
 have key:∀n:Fin 22,(0 <= (nL.getD n.1 (0,0,0)).1 /\ (nL.getD n.1 (0,0,0)).1 <= 2) /\ (0 <= (nL.getD n.1 (0,0,0)).2.1 /\ (nL.getD n.1 (0,0,0)).2.1 <= 1):=by decide
 exact key ⟨n,hn⟩
theorem I4{op n sp:Int}(h:fg op n sp=true):(1 <= op /\ op <= 21) /\ sp <= 16 /\ eP op <= sp /\ ¬ bd (bd (sp-eP op)+eQ op)>16 /\ (eN op=0 \/ (0 <= n /\ n<eN op)):=by
 unfold fg at h;split at h
 ·cases h
 split at h
 ·cases h
 split at h
 ·cases h
 split at h
 ·cases h
 split at h
 ·cases h
 refine⟨by omega,by omega,by omega,by assumption,?_⟩;split at h
 ·left;assumption
 ·split at h
  ·right;exact⟨by omega,aci h⟩
  ·cases h
theorem Ly{M:MemS}{P k v:Int}(hl:48 <= M.cs.length)(h0:0 <= M.get 11 /\ M.get 11 <= 40):Kp P M (cM k v M).M /\ (cM k v M).M.get 8=M.get 8 /\ Ef M (cM k v M):=by
 unfold cM;split
 ·exact⟨.refl,rfl,⟨λ h=>by simp at h,λ _=>rfl⟩⟩
 ·refine⟨((Kp.refl).set (by omega) _).set (by omega) _,?_,⟨λ _=>⟨rfl,rfl,by omega,?_⟩,λ h=>by simp at h⟩⟩
  ·simp only;rw[bE (by decide),bE (by decide)]
  ·simp only;rw[jz (by rw[aO];omega),dh (by omega)]
def Gd(P:Int)(M:MemS)(r:VR):Prop:=Kp P M r.M /\ r.M.get 8=M.get 8 /\ Ef M r
theorem nh{P:Int}{M:MemS}{c:Prop}[Decidable c]{x y:VR}(hx:c -> Gd P M x)(hy:¬ c -> Gd P M y):Gd P M (if c then x else y):=by
 split
 ·exact hx (by assumption)
 ·exact hy (by assumption)
theorem Gd.base{P:Int}{M:MemS}{v:Int}:Gd P M ⟨M,v,bC,false⟩:=⟨.refl,rfl,⟨λ h=>by simp at h,λ _=>rfl⟩⟩
theorem Gd.st{P:Int}{M:MemS}{k v u:Int}(hk:(5<k /\ k≠8 /\ k≠11) /\ (k<48 \/ 48+4*P <= k)):Gd P M ⟨M.set k v,u,bC,false⟩ :=
 ⟨(Kp.refl).set (by omega) _,bE (by omega),⟨λ h=>by simp at h,λ _=>bE (by omega)⟩⟩
theorem Gd.mite{P:Int}{M X Y:MemS}{c:Prop}[Decidable c]{u:Int}(hx:c -> Gd P M ⟨X,u,bC,false⟩)(hy:¬ c -> Gd P M ⟨Y,u,bC,false⟩):Gd P M ⟨if c then X else Y,u,bC,false⟩:=by
 split
 ·exact hx (by assumption)
 ·exact hy (by assumption)
theorem Lz{S:Setup}(hS:SetV S){M:MemS}{op n a b:Int}(hl:48 <= M.cs.length)(h0:0 <= M.get 11 /\ M.get 11 <= 40)(hn:eN op=0 \/ (0 <= n /\ n<eN op)):Gd S.players M (aC S op n a b M):=by
 have hpl:=hS.pl;have Vh:=hS.nb;unfold aC
 iterate 14 (refine nh (λ _=>.base) λ _=>?_)
 refine nh (λ e=>?_) λ _=>?_
 ·subst e;have Sf:0 <= n /\ n<16:=by
   rcases hn with h|h
   ·exact absurd h (by decide)
   ·exact h
  rw[dh (by omega)];exact .st (by omega)
 refine nh (λ _=>.base) λ _=>?_;refine nh (λ e=>?_) λ _=>?_
 ·subst e;have h8:0 <= n /\ n<8:=by
   rcases hn with h|h
   ·exact absurd h (by decide)
   ·exact h
  refine Gd.mite (λ hb=>?_) λ _=>.base;rcases od (S:=S) (by omega) a with e|⟨b0,b1,e⟩
  ·omega
  ·rw[dh (by omega)];exact .st (by omega)
 refine nh (λ _=>.st (by omega)) λ _=>?_;refine nh (λ _=>.mite (λ _=>.st (by omega)) λ _=>.base) λ _=>?_;refine nh (λ _=>?_) λ _=>.base;obtain⟨q1,q2,q3⟩:=Ly (P:=S.players) (k:=a) (v:=b) hl h0;exact⟨q1,q2,⟨q3.yes,q3.no⟩⟩
theorem LA{P:Int}{M:MemS}{op sp pc fuel:Int}(hl:48 <= M.cs.length):Kp P M (dJ op sp pc fuel M) /\ (dJ op sp pc fuel M).get 8=bd (fuel-1) /\ (dJ op sp pc fuel M).get 11=M.get 11:=by
 unfold dJ;split
 ·exact⟨((Kp.refl).set (by omega) _).set (by omega) _,by rw[bE (by decide),jz (by omega)],by rw[bE (by decide),bE (by decide)]⟩
 ·exact⟨(((Kp.refl).set (by omega) _).set (by omega) _).set (by omega) _,by rw[bE (by decide),bE (by decide),jz (by omega)],by rw[bE (by decide),bE (by decide),bE (by decide)]⟩
theorem yF{S:Setup}(hS:SetV S){M:MemS}{code:List Ins}{n:Nat}(hl:48 <= M.cs.length)(h0:0 <= M.get 11 /\ M.get 11 <= 40)(hf:0 <= M.get 8 /\ M.get 8 <= 60) :
  Kp S.players M (ak S code n M).M /\ Ef M (ak S code n M) /\ ((d8 code n M /\ (ak S code n M).M.get 8=M.get 8-1 /\ 1 <= M.get 8) \/ (¬ d8 code n M /\ bA code n M=true /\ (ak S code n M).M.get 8=M.get 8)):=by
 unfold ak
 by_cases hr:d8 code n M
 ·rw[if_pos hr];obtain⟨r1,r2,r3,r4⟩:=hr;obtain⟨x1,x2,x3,x4,x5⟩:=I4 r4;have hp:=LA (P:=S.players) (op:=(bq code M).op) (sp:=M.get 7) (pc:=M.get 6) (fuel:=M.get 8) hl;generalize hM1:dJ (bq code M).op (M.get 7) (M.get 6) (M.get 8) M=M1 at *;obtain⟨p1,p2,p3⟩:=hp;rw[dh (by omega)] at p2;have he:=Lz hS (M:=M1) (op:=(bq code M).op) (n:=(bq code M).n) (a:=eo (bq code M).op (M.get 7) M) (b:=ep (bq code M).op (M.get 7) M) (by rw[p1.len];exact hl) (by rw[p3];exact h0) x5;unfold bP;rw[hM1];generalize aC S (bq code M).op (bq code M).n (eo (bq code M).op (M.get 7) M) (ep (bq code M).op (M.get 7) M) M1=r at *;obtain⟨g1,g2,g3⟩:=he;have hE:Ef M r:=⟨λ h=>by
   obtain⟨a1,a2,a3,a4⟩:=g3.yes h;rw[p1.get 0 (by omega)] at a1;rw[p3] at a2 a3 a4;exact⟨a1,a2,a3,a4⟩,λ h=>by rw[g3.no h,p3]⟩
  have hb:=Ra x1;unfold cg;split
  ·have hq:bd (bd (16+M.get 7)-eP (bq code M).op)=16+M.get 7-eP (bq code M).op:=by rw[dh (x:=16+M.get 7) (by omega),dh (by omega)]
   rw[dh (x:=M.get 7-eP (bq code M).op) (by omega),dh (by omega)] at x4;rw[hq];refine⟨(p1.trans g1).set (by omega) _,⟨λ h=>?_,λ h=>?_⟩,.inl ⟨⟨r1,r2,r3,r4⟩,?_,by omega⟩⟩
   ·obtain⟨a1,a2,a3,a4⟩:=hE.yes h;exact⟨a1,a2,a3,(bE (by omega)).trans a4⟩
   ·exact(bE (by omega)).trans (hE.no h)
   ·simp only;rw[bE (by omega),g2,p2]
  ·exact⟨p1.trans g1,hE,.inl ⟨⟨r1,r2,r3,r4⟩,by rw[g2,p2],by omega⟩⟩
 ·rw[if_neg hr];exact⟨.refl,⟨λ h=>by simp at h,λ _=>rfl⟩,.inr ⟨hr,by unfold bA;rw[if_neg hr],rfl⟩⟩
def l6(n i j fu:Int):Int:=(if j=0 then (n-i)*62 else (n-i-1)*62+fu+1)+1+n
def l5(n i j:Int):Int:=n*(n+1)-(i*(n+1)+j)+l6 n 0 0 0
def Mm(n i:Int):Int:=if i=0 then 0 else if i=1 then n-1 else if i=2 then 2*n-3 else 3*n-6
def N5(n:Int):Int:=if n=2 then 1 else if n=3 then 3 else if n=4 then 6 else if n=5 then 10 else 0
def l4(n R i j r:Int):Int:=(if n<2 then 0 else (R-r)*N5 n-(Mm n i+(j-i-1)))+1+l5 n 0 0
def l3(n R i:Int):Int:=n-i+l4 n R 0 1 0
def l2(n R j fu:Int):Int:=(if j=0 then 62 else fu+1)+l3 n R 0
def l1(P n R i j fu:Int):Int:=(if j=0 then (P-i)*62 else (P-i-1)*62+fu+1)+1+l2 n R 0 0
def l0(P n R i:Int):Int:=P-i+l1 P n R 0 0 0
def Fi(P n R p i j r fu:Int):Int:=if p=0 then l0 P n R i else if p=1 then l1 P n R i j fu else if p=2 then l2 n R j fu else if p=3 then l3 n R i else if p=4 then l4 n R i j r else if p=5 then l5 n i j else if p=6 then l6 n i j fu else n-i
def Ou(P n R p i j r fu:Int):Prop :=
 (p=0 /\ 0 <= i /\ i<P) \/ (p=1 /\ 0 <= i /\ i <= P /\ (j=0 \/ (j=1 /\ i<P /\ 0 <= fu /\ fu <= 60))) \/ (p=2 /\ (j=0 \/ (j=1 /\ 0 <= fu /\ fu <= 60))) \/ (p=3 /\ 0 <= i /\ i<n) \/
 (p=4 /\ 0 <= r /\ r <= R /\ (2 <= n -> 0 <= i /\ i<j /\ j<n /\ (r=R -> i=0 /\ j=1))) \/ (p=5 /\ 0 <= i /\ i<n /\ 0 <= j /\ j <= n) \/ (p=6 /\ 0 <= i /\ i <= n /\ (j=0 \/ (j=1 /\ i<n /\ 0 <= fu /\ fu <= 60))) \/ (p=7 /\ 0 <= i /\ i<n)
theorem I5{n i j:Int}(hn:1 <= n /\ n <= 5)(hi:0 <= i /\ i<n)(hj:0 <= j /\ j <= n):0<l5 n i j:=by
 unfold l5 l6;obtain h|h|h|h|h:n=1 \/ n=2 \/ n=3 \/ n=4 \/ n=5:=by omega
 all_goals subst h;simp;omega
theorem CA{P n R p i j r fu:Int}(hP:1 <= P /\ P <= 3)(hn:1 <= n /\ n <= 5)(hR:1 <= R /\ R <= 3)(h:Ou P n R p i j r fu):0<Fi P n R p i j r fu:=by
 have h5:=I5 hn (i:=0) (j:=0) (by omega) (by omega);have h4:∀i j r,0 <= r -> r <= R -> (2 <= n -> 0 <= i /\ i<j /\ j<n) -> -9 <= (if n<2 then 0 else (R-r)*N5 n-(Mm n i+(j-i-1))) -> 0<l4 n R i j r+9:=λ i j r _ _ _ h=>by unfold l4;omega
 have k4:0<l4 n R 0 1 0:=by
  unfold l4 N5 Mm;obtain h|h|h|h|h:n=1 \/ n=2 \/ n=3 \/ n=4 \/ n=5:=by omega
  all_goals subst h;simp;omega
 have k3:0<l3 n R 0:=by unfold l3;omega
 have k2:∀j fu,(j=0 \/ (j=1 /\ 0 <= fu /\ fu <= 60)) -> 0<l2 n R j fu:=λ j fu h=>by unfold l2;split <;> omega
 have k20:=k2 0 0 (.inl rfl);have k1:∀i j fu,0 <= i -> i <= P -> (j=0 \/ (j=1 /\ i<P /\ 0 <= fu /\ fu <= 60)) -> 0<l1 P n R i j fu:=λ i j fu _ _ h=>by unfold l1;split <;> omega
 have k10:=k1 0 0 0 (by omega) (by omega) (.inl rfl);rcases h with h|h|h|h|h|h|h|h <;> obtain⟨rfl,h⟩:=h
 ·show 0<l0 P n R i;unfold l0;omega
 ·exact k1 i j fu h.1 h.2.1 h.2.2
 ·exact k2 j fu h
 ·show 0<l3 n R i;unfold l3;omega
 ·show 0<l4 n R i j r;unfold l4;split
  ·omega
  ·obtain⟨h1,h2,h3⟩:=h;obtain⟨h3,h4',h5',-⟩:=h3 (by omega);have:100<l5 n 0 0:=by
    unfold l5 l6;obtain h|h|h|h|h:n=1 \/ n=2 \/ n=3 \/ n=4 \/ n=5:=by omega
    all_goals first|omega|(subst h;simp)
   have h6:Mm n i <= 9:=by unfold Mm;(repeat' split) <;> omega
   have h7:0 <= (R-r)*N5 n:=Int.mul_nonneg (by omega) (by unfold N5;(repeat' split) <;> omega);omega
 ·exact I5 hn ⟨h.1,h.2.1⟩ h.2.2
 ·show 0<l6 n i j fu;unfold l6;split <;> omega
 ·show 0<n-i;omega
abbrev Fj(M:MemS):Prop:=M.get 1=0 /\ M.get 2=0
structure TV(S:Setup)(ins:Nat -> Inp)(M:MemS):Prop where
 len:(M.cs.length:Int)=sizeOf S
 t0:0 <= M.get 0 /\ M.get 0 <= 1000000
 ct:Ou S.players S.nb S.rounds (M.get 1) (M.get 2) (M.get 3) (M.get 4) (M.get 8)
 pl:∀q:Nat,(q:Int)<(if M.get 1=0 then M.get 2 else S.players) -> M.get (48+4*q)=(ins q).dx /\ M.get (48+4*q+1)=(ins q).dy /\ M.get (48+4*q+2)=(ins q).act
 ec:Fj M \/ (0 <= M.get 11 /\ M.get 11 <= 40)
abbrev nr(S:Setup)(M:MemS):Int:=Fi S.players S.nb S.rounds (M.get 1) (M.get 2) (M.get 3) (M.get 4) (M.get 8)
structure Nx(S:Setup)(ins:Nat -> Inp)(M:MemS)(r:VR):Prop where
 tv:TV S ins r.M
 lt:nr S r.M<nr S M
 ph:M.get 1 <= r.M.get 1
 t0:r.M.get 0=M.get 0
 ns:¬ Fj r.M
 yes:r.em=true -> ¬ Fj M /\ r.e.t=M.get 0 /\ r.e.i=M.get 11 /\ r.M.get 11=M.get 11+1
 no:r.em=false -> r.M.get 11=if Fj M then 0 else M.get 11
theorem TV.l48{S:Setup}(hS:SetV S){ins:Nat -> Inp}{M:MemS}(h:TV S ins M):48 <= M.cs.length:=by
 have:=h.len;have:=hS.pl;unfold sizeOf at *;omega
theorem iu{S:Setup}(hS:SetV S){ins:Nat -> Inp}{M N:MemS}{r:VR}{p i j q x fu:Int}(h:TV S ins M)(hp:1 <= M.get 1)(hN:Kp S.players M N)(hlen:r.M.cs.length=N.cs.length)
  (g:∀k,r.M.get k=if k=1 then p else if k=2 then i else if k=3 then j else if k=4 then q else if k=5 then x else N.get k) (h8:N.get 8=fu)
  (hE:Ef M ⟨N,r.v,r.e,r.em⟩) (hc:Ou S.players S.nb S.rounds p i j q fu) (XR:M.get 1 <= p) (iF:Fi S.players S.nb S.rounds p i j q fu<nr S M):Nx S ins M r:=by
 have ha:¬ Fj M:=λ e=>by have:=e.1;omega
 have g0:r.M.get 0=M.get 0:=by rw[g];simp;exact hN.get 0 (by omega)
 have g1:r.M.get 1=p:=by rw[g];simp
 have g2:r.M.get 2=i:=by rw[g];simp
 have g3:r.M.get 3=j:=by rw[g];simp
 have g4:r.M.get 4=q:=by rw[g];simp
 have g8:r.M.get 8=fu:=by rw[g];simp;exact h8
 have g11:r.M.get 11=N.get 11:=by rw[g];simp
 have gp:∀k,48 <= k -> k<48+4*S.players -> r.M.get k=M.get k:=λ k h1 h2=>by
  rw[g,if_neg (by omega),if_neg (by omega),if_neg (by omega),if_neg (by omega),if_neg (by omega)];exact hN.get k (by omega)
 have YV:0 <= M.get 11 /\ M.get 11 <= 40:=by
  rcases h.ec with e|e
  ·exact absurd e ha
  ·exact e
 refine⟨⟨by rw[hlen,hN.len];exact h.len,by rw[g0];exact h.t0,by rw[g1,g2,g3,g4,g8];exact hc,λ k hk=>?_,.inr ?_⟩,?_,by rw[g1];exact XR,g0,λ e=>by rw[Fj,g1] at e;have:=e.1;omega,λ e=>?_,λ e=>?_⟩
 ·rw[g1,if_neg (by omega)] at hk;have:=h.pl k (by rw[if_neg (by omega)];exact hk);rw[gp _ (by omega) (by omega),gp _ (by omega) (by omega),gp _ (by omega) (by omega)];exact this
 ·rw[g11];cases he:r.em with
  | true=>obtain⟨a,b,c,d⟩:=hE.yes he;simp only at d;omega
  | false=>have:=hE.no he;simp only at this;omega
 ·unfold nr;rw[g1,g2,g3,g4,g8];exact iF
 ·obtain⟨a,b,c,d⟩:=hE.yes e;exact⟨ha,a,b,by rw[g11];exact d⟩
 ·rw[if_neg ha,g11];exact hE.no e
theorem Hi.kp{P:Int}{M N:MemS}(h:Hi P M N)(hP:0 <= P):Kp P M N:=⟨h.len,λ j hj=>h.get j (by omega)⟩
theorem Hi.ef{P:Int}{M N:MemS}(h:Hi P M N)(hP:0 <= P){v:Int}{e:Eff}:Ef M ⟨N,v,e,false⟩:=⟨λ h=>by simp at h,λ _=>h.get 11 (by omega)⟩
theorem j7{M:MemS}(h:48 <= M.cs.length)(t:Stp)(a b j:Int):(aL t a b M).get j=if j=3 then b else if j=2 then 0 else if j=1 then a else M.get j:=by
 unfold aL;rw[bX (by simp only[aO];exact h) (by omega) (by omega),bX (by simp only[aO];exact h) (by omega) (by omega),bX h (by omega) (by omega)]
theorem fZ{M:MemS}(t:Stp)(a b:Int):(aL t a b M).cs.length=M.cs.length:=by unfold aL;simp only[aO]
theorem if5{k p i j q x z:Int}{f:Int -> Int}(h:(if k=3 then j else if k=2 then i else if k=1 then p else f k)=z)(hq:q=f 4)(hx:x=f 5):z=if k=1 then p else if k=2 then i else if k=3 then j else if k=4 then q else if k=5 then x else f k:=by
 subst h hq hx
 by_cases e1:k=1
 ·subst e1;simp
 by_cases e2:k=2
 ·subst e2;simp
 by_cases e3:k=3
 ·subst e3;simp
 by_cases e4:k=4
 ·subst e4;simp
 by_cases e5:k=5
 ·subst e5;simp
 simp[e1,e2,e3,e4,e5]
theorem Rb{k i z:Int}{f:Int -> Int}(h:(if k=2 then i else f k)=z):z=if k=1 then f 1 else if k=2 then i else if k=3 then f 3 else if k=4 then f 4 else if k=5 then f 5 else f k:=by
 subst h
 by_cases e1:k=1
 ·subst e1;simp
 by_cases e2:k=2
 ·subst e2;simp
 by_cases e3:k=3
 ·subst e3;simp
 by_cases e4:k=4
 ·subst e4;simp
 by_cases e5:k=5
 ·subst e5;simp
 simp[e1,e2,e3,e4,e5]
theorem I6{S:Setup}(hS:SetV S){t:Stp}(ht:t.S=S)(M:MemS):Hi S.players M (bK t (bG t M)):=by
 have hp:0 <= S.players:=by have:=hS.pl;omega
 subst ht;have ha:Hi t.S.players M (bG t M):=by
  unfold bG;split
  ·exact(Hi.refl).setB hp (by omega) (by omega) _
  ·exact .refl
 unfold bK;split
 ·next hm =>
  have hb:af t.S t.i >= 0:=by
   rcases od hp t.i with e|⟨_,_,e⟩
   ·unfold af at e;rw[if_neg (by have:=hm.1;omega),if_neg (by have:=hm.1;omega)] at e;have:=hm.1;omega
   ·omega
  exact(ha.setB hp hb (by omega) _).setB hp hb (by omega) _
 ·exact ha
theorem q3{S:Setup}(hS:SetV S){g:Gm}(hg:g.S=S){ins:Nat -> Inp}{M:MemS}(h:TV S ins M)(hp:M.get 1=3):Nx S ins M ⟨aS (g.step M) M,0,bC,false⟩:=by
 have hpl:=hS.pl;have Vh:=hS.nb;have RU:=hS.ro;have hc:0 <= M.get 2 /\ M.get 2<S.nb:=by rcases h.ct with h|h|h|h|h|h|h|h <;> omega
 have hh:=I6 hS (t:=g.step M) hg M;have hl:=h.l48 hS;unfold aS bU;generalize bK (g.step M) (bG (g.step M) M)=N at *;have RM:48 <= N.cs.length:=by rw[hh.len];exact hl
 have e1:=hh.get 1 (by omega);have e2:=hh.get 2 (by omega);have e3:=hh.get 3 (by omega);have e4:=hh.get 4 (by omega);have e8:=hh.get 8 (by omega);show Nx S ins M ⟨if bd (M.get 2+1)<g.S.nb then N.set 2 (bd (M.get 2+1)) else _,0,bC,false⟩;rw[dh (by omega),hg];split
 ·refine iu hS h (by omega) (hh.kp (by omega)) (aO _ _ _) (λ k=>Rb (f:=N.get) (bX RM (by omega) (by omega) k).symm) e8 (hh.ef (by omega)) ?_ (by omega) ?_
  ·rw[e1,e3,e4,hp];exact .inr (.inr (.inr (.inl ⟨rfl,by omega,by omega⟩)))
  ·unfold nr;rw[e1,e3,e4,hp];show l3 S.nb S.rounds (M.get 2+1)<l3 S.nb S.rounds (M.get 2);unfold l3;omega
 ·refine iu hS h (by omega) (hh.kp (by omega)) ((aO _ _ _).trans (fZ _ _ _)) (p:=4) (i:=0) (j:=1) (q:=0) (x:=N.get 5) (λ k=>?_) e8 (hh.ef (by omega)) ?_ (by omega) ?_
  ·rw[bX (by rw[fZ];exact RM) (by omega) (by omega),j7 RM]
   by_cases k4:k=4
   ·subst k4;simp
   ·rw[if_neg k4]
    by_cases k1:k=1
    ·subst k1;simp
    by_cases k2:k=2
    ·subst k2;simp
    by_cases k3:k=3
    ·subst k3;simp
    by_cases k5:k=5
    ·subst k5;simp
    simp[k1,k2,k3,k4,k5]
  ·exact .inr (.inr (.inr (.inr (.inl ⟨rfl,by omega,by omega,λ _=>by omega⟩))))
  ·unfold nr;rw[hp];show l4 S.nb S.rounds 0 1 0<l3 S.nb S.rounds (M.get 2);unfold l3;omega
end Go.Proofs.YtdppjkjbghbnjaaGreatDoor
