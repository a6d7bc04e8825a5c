import Derived.Shelf.Small.Strs
import Derived.Shelf.Strings.Search1
import Derived.Shelf.Sort.Plain
import Derived.Ground.Names2Prog
import Derived.Shelf.Slices.CompactI
import Derived.Shelf.Slices.In.SortNone
import Derived.Lib.RowBridge
import Derived.Test.YtghjbimijeinfaaGreatDoorV29
set_option maxHeartbeats 4000000
set_option maxRecDepth 100000
set_option linter.all false
namespace Go.Proofs.YtghjbimijeinfaaGreatDoor
open IntKind
open Go.RowKit
noncomputable def Rx:TypeInfo:=match Tryz.prog.info? 22 with | some i=>i | none=>⟨.bool,"",0,0,false,0,0,none,false,#[]⟩
noncomputable def Ry:Value:=match Rx.zero with|some z=>z|none=>.bool false
theorem NV:EncOk jz Tryz.prog 22 Rx Ry where
 info:=by kernel_rfl
 zero:=by kernel_rfl
 size:=by kernel_rfl
 zsize:=by kernel_rfl
 zcell:=λ k hk=>by
  have h:∀k<1,Ry.cells[k]?=some (jz.cell jz.dflt k):=by intro k hk;(iterate 1 (rcases k with _|k;· kernel_rfl));omega
  exact h k hk
 one:=λ x k=>by unfold jz;dsimp only;split <;> rfl
 bytes:=aaN (by kernel_rfl)
theorem RwsT.snocC{rs:List Rw}{xss:List (List Inp)}{T T1:HL}{xs:List Inp}{A:Option Addr}{c n:Nat}(h:RwsT rs xss T)(hs:ClS iE 151 xs A c T1)(h1:1 <= xs.length)(hn:n=xs.length):RwsT (rs++[⟨A,n,c⟩]) (xss++[xs]) (T++T1):=by
 obtain⟨A0,hs⟩:=hs;rcases hs with ⟨rfl,_⟩|⟨b,rfl,rfl,h3⟩
 ·simp at h1
 ·refine h.snoc (A:=some ⟨b,0,none⟩) (c:=c) (T1:=[(b,.rows 3 c (bu iE xs) 151 (0,0))]) (.inr ⟨b,0,xs++List.replicate (c-xs.length) iE.dflt,by simp,?_,by simp;omega,h3,by simp⟩) h1 hn;rw[Nat.zero_add,oZ];rfl
def StT(sl:List Rw)(W:Nat -> List Int)(T:HL):Prop:=∀F:HL,(∀x∈T,x∈F) -> ∀k,k<sl.length -> ∃q,sl.getD k jz.dflt=⟨some ⟨q,0,none⟩,(W k).length,(W k).length⟩ /\ (q,.rows 1 (W k).length (aM (W k)) 3 (0,0))∈F
theorem StT.nil(W:Nat -> List Int):StT [] W []:=λ F _ k hk=>absurd hk (Nat.not_lt_zero _)
theorem StT.snoc{sl:List Rw}{W:Nat -> List Int}{T:HL}{q:Nat}{cs:List Int}(h:StT sl W T)(e:W sl.length=cs):StT (sl++[⟨some ⟨q,0,none⟩,cs.length,cs.length⟩]) W (T++[(q,.rows 1 cs.length (aM cs) 3 (0,0))]):=λ F hF k hk=>by
 rw[kB]
 by_cases XL:k<sl.length
 ·rw[if_pos XL];exact h F (λ x hx=>hF x (aav _ hx)) k XL
 ·have:k=sl.length:=by simp at hk;omega
  rw[if_neg XL,if_pos this,this,e];exact⟨q,rfl,hF _ (aau _ (List.mem_singleton.2 rfl))⟩
def kJ(n:Nat)(Ln:Nat -> Nat):List Int:=(List.range n).map λ k=>((Ln k+1:Nat):Int)
theorem kK(n:Nat)(Ln:Nat -> Nat):(kJ n Ln).length=n:=by simp[kJ]
theorem Cg(n:Nat)(Ln:Nat -> Nat):kJ (n+1) Ln=kJ n Ln++[((Ln n+1:Nat):Int)]:=by simp[kJ,List.range_succ]
theorem qz{n k:Nat}{Ln:Nat -> Nat}(h:k<n):(kJ n Ln).getD k 0=((Ln k+1:Nat):Int):=by simp[kJ,h]
theorem Aj(S:Setup)(bp xp n1 n2 n3 rc sc lc q b o N cc m k:Nat)(rA sA lA:Option Addr)(ct tr ix vv τ:Int)(t:Nat)(j:Nat × Int)(rl sl:List Rw)(full xs:List Inp)(cs:List Int)(F:HL)(hx:(xp,.lit (Setup.l S++[vP bp 0,.slice rA n1 rc,vI ct,vI tr,vI ix,vI vv,.slice sA n2 sc,.slice lA n3 lc]) 235 (0,0))∈F)(hS:SetIn F S)(hE:dp F)(hj:j.1<5)(hA:AtOk F bp (t:Int) j)(hsl:RowL jz 22 F sA n2 sl)(Zk:t<n2)(hst:sl.getD t jz.dflt=⟨some ⟨q,0,none⟩,cs.length,cs.length⟩)(hq:(q,.rows 1 cs.length (aM cs) 3 (0,0))∈F)(hrl:RowL jz 56 F rA n1 rl)(ht1:t<n1)(hrw:rl.getD t jz.dflt=⟨some ⟨b,o*3,none⟩,xs.length,cc⟩)(hI:(b,.rows 3 N (j9 full) 151 (0,0))∈F)(hir:o+xs.length <= N)(Tz:xs.length <= 1000000)(UG:∀k,k<xs.length -> full.getD (o+k) dI=xs.getD k dI)(BY:cs.length <= 1000000)(hg:ut (eU S j xs) (m8 (decide ((t:Int)=ct)) tr ix vv) (m+1) 0 ⟨cs,[],0⟩)(hm:m <= 999)(hk:k <= 1000000)(ht0:t <= 1000000):Sp Tryz.prog 113 #[vP xp 0,vI (t:Int),vI τ] (ap [] []) F (λ u H'=>∃x:Nat × HL,H'=ap [] [x.2] /\ ((0 <= τ /\ τ <= (m:Int) /\ u=.tuple #[vP x.1 0,vI τ] /\ MemH x.1 ((m8 (decide ((t:Int)=ct)) tr ix vv) τ.toNat (nD (eU S j xs) (m8 (decide ((t:Int)=ct)) tr ix vv) τ.toNat 0 ⟨cs,[],0⟩)) k x.2) \/ (¬ (0 <= τ /\ τ <= (m:Int)) /\ u=.tuple #[vP x.1 0,vI ((m+1:Nat):Int)] /\ MemH x.1 (nD (eU S j xs) (m8 (decide ((t:Int)=ct)) tr ix vv) (m+1) 0 ⟨cs,[],0⟩) k x.2))):=by
 refine aas Tryz.func113 rfl (mc hx mn) (A:=[]) (Ts:=[]) rfl λ w0=>?_;refine ae 13 [.ro 0] λ _=>?_;obtain⟨qx1,X7,Nx1,fx1,air,abu,Yl,agR,aa1⟩:=hsl.at (k:=t) Zk;refine aS 18 (congrArg (λ v_=>(.slice v_ n2 sc:Value)) abu)<|RN.ro (λ _=>(mc hx (mc Yl mn)))<|ai 2 [.ix t,.rorow 1 (X7+t) 0] [(X7*1+t*1)=(X7+t)*1+0 /\ (X7+t)<Nx1,(t:Int)=((t:Nat):Int) /\ t<n2] λ _=>aS 21 (congrArg (λ v_=>(.slice v_.A v_.n v_.c:Value)) aa1)<|aS 21 (congrArg (λ v_:Rw=>Value.slice v_.A v_.n v_.c) hst)<|aai (Hp:=[]) (Tp:=[]) [] [] (sR q cs cs.length (k+21*(m+1)+21) cs.length _ rfl (aq hq) BY (by omega) (aaS _)) ?_;rintro _ ⟨mq,Tq⟩ ⟨rfl,VG⟩;dsimp only at VG;refine ae 10 [.ro 0] λ _=>aai (Hp:=[]) (Tp:=[]) [] [] (hA _ (λ x hx=>aq hx)) ?_;rintro _ ⟨A2,c3,T4⟩ ⟨rfl,YB⟩;dsimp only at YB;refine ae 14 (aab 4) λ n6=>aan (σ:=Nat × Nat × MemS × HL) (λ ⟨r,k_,N_,T_⟩=>⟨[(0,vP xp 0),(1,vI (t:Int)),(2,vI τ),(8,vP mq 0),(9,vI j.2),(10,vP (n6+0) 0),(11,vI (k_:Int))],[((n6+0),.lit [.slice A2 (fP j.1) c3,vI (bD j.1 0),vI (bD j.1 1),vI (bD j.1 2)] 47 (0,0))],[T4,T_],k_+(r+1)=m+1 /\ ut (eU S j xs) (m8 (decide ((t:Int)=ct)) tr ix vv) (r+1) k_ N_ /\ N_=(nD (eU S j xs) (m8 (decide ((t:Int)=ct)) tr ix vv) k_ 0 ⟨cs,[],0⟩) /\ MemH mq N_ (k+21*(r+1)+21) T_ /\ (0 <= τ -> (k_:Int) <= τ),r⟩) (m,0,⟨cs,[],0⟩,Tq) [0] [0,1] (⟨by omega,hg,rfl,VG,λ h_=>h_⟩) ?_;rintro⟨r,k_,N_,T_⟩ ⟨hd_,Wd,hN_,Uq,VS⟩ XH;refine ae 3 [] λ _=>RN.cut (σ:=MemS × HL) (λ ⟨F_,YS⟩=>⟨[(0,vP xp 0),(1,vI (t:Int)),(2,vI τ),(8,vP mq 0),(9,vI j.2),(10,vP (n6+0) 0),(11,vI (k_:Int))],[((n6+0),.lit [.slice A2 (fP j.1) c3,vI (bD j.1 0),vI (bD j.1 1),vI (bD j.1 2)] 47 (0,0))],[T4,YS],F_=(m8 (decide ((t:Int)=ct)) tr ix vv) k_ N_ /\ MemH mq F_ (k+21*(r+1)+20) YS,0⟩) ?_ ?_
 ·intro Wt;refine ae 10 [.ro 0] λ _=>aal ((t:Int)=ct) 41 (λ Ti=>?_) λ Ti=>?_
  ·refine ae 10 [.ro 0] λ _=>aal ((k_:Int)=tr) 49 (λ TZ=>?_) λ TZ=>?_
   ·refine ae 1 [] λ _=>aak [13] []<|ag [] [0,1,7,2,8,3,9,4,10,5,11,6,12] [.ro 0,.ro 0]<|aae 13 (aaf [] [] [1] (aj ix vv (show MemH mq N_ (k+21*(r+1)+20+1) T_ from Uq.weak (by omega))) ?_);rintro _ T12 XB;refine aad ?_;refine Wt ((N_.set ix vv),T12) [0] [1,0] ?_
    try dsimp only
    exact⟨(by unfold m8;rw[abA Ti,if_pos rfl,if_pos TZ]:(m8 (decide ((t:Int)=ct)) tr ix vv) k_ N_=(N_.set ix vv)).symm,XB.weak (by omega)⟩
   ·refine ae 2 [] λ _=>?_;refine Wt (N_,T_) [0] [0,1] ?_
    try dsimp only
    exact⟨(by unfold m8;rw[abA Ti,if_pos rfl,if_neg TZ]:(m8 (decide ((t:Int)=ct)) tr ix vv) k_ N_=N_).symm,Uq.weak (by omega)⟩
  ·refine ae 12 [] λ _=>?_;refine Wt (N_,T_) [0] [0,1] ?_
   try dsimp only
   exact⟨(by unfold m8;rw[abz Ti];rfl:(m8 (decide ((t:Int)=ct)) tr ix vv) k_ N_=N_).symm,Uq.weak (by omega)⟩
 ·rintro⟨F_,YS⟩ ⟨Wk,Wi⟩;refine ae 9 [] λ _=>aal ((k_:Int)=τ) 66 (λ Uh=>?_) λ Uh=>?_
  ·refine ae 9 [] λ _=>aap [] [] [1] (v:=.tuple #[vP mq 0,vI (k_:Int)]) (H':=(ap [] [YS])) ?_;refine⟨(mq,YS),rfl,.inl ⟨by omega,by omega,by rw[Uh],?_⟩⟩;have et_:τ.toNat=k_:=by omega
   rw[et_,<- hN_,<- Wk];exact Wi.weak (by omega)
  ·refine ae 4 [] λ _=>aak [15,22] []<|ag [] [0,2,6,7,8,12,1,3,9,4,10,5,11] [.own 0,.own 0,.own 0,.own 0,.ro 0,.ro 0,.ro 0,.ro 0,.ro 0,.ro 0,.ro 0,.ro 0,.ro 0,.ro 0,.ro 0,.ro 0,.ro 0,.ro 0,.ro 0,.ro 0,.ro 0] ?_;obtain⟨alZ,X4,ajs,aot,ak1,aeo,adf,akc,adF⟩:=hrl.at (k:=t) ht1;refine nz 81 (congrArg (λ v_=>(.slice v_ n1 rc:Value)) aeo)<|RD.ro (λ _=>(mc hx (mc Yl (mc adf mn))))<|aF [] [13,14] [.ix t,.rorow 2 (X4+t) 0] [(X4*1+t*1)=(X4+t)*1+0 /\ (X4+t)<ajs,(t:Int)=((t:Nat):Int) /\ t<n1]<|nz 84 (congrArg (λ v_=>(.slice v_.A v_.n v_.c:Value)) adF)<|nz 84 (congrArg (λ v_:Rw=>Value.slice v_.A v_.n v_.c) hrw)<|fe 15 20 ?_ ?_
   ·refine aaf [] [] [1] (jk (g:=(⟨S,A2,fP j.1,c3,bD j.1 0,bD j.1 1,bD j.1 2,j.2,b,o,xs.length,cc,N,full,kz j.1⟩:Gm)) (g0:=(eU S j xs)) (og UG) mq F_ (k+21*(r+1)) YS _ (Wi.weak (by omega)) ⟨hS.up,aq hI,⟨hir,by omega⟩,aq hE,YB.code hj (ay 0)⟩ (by rw[Wk];exact Wd.1) j.2 rfl) ?_;rintro _ VN ⟨Uu,rfl⟩;refine ag [] [16,17,18,19] []<|aae 20 (aag [] [] λ n18=>?_);refine ag [] [21] []<|aae 22 (aag [] (aab 4) λ _=>?_);refine ag [] [23] []<|aad<|ae 6 [] λ _=>iw (gS (eU S j xs) F_) 89 (λ Wx=>?_) λ Wx=>?_
    ·refine ai 10 [.nw] [bm ((k_:Int)+1)] λ _=>aap [] [] [0] (v:=.tuple #[vP mq 0,vI ((k_:Int)+1)]) (H':=(ap [] [VN])) ?_;have er_:r=0:=by
      rcases Wd.2 with ⟨e_,_⟩|⟨e_,_⟩
      ·exact e_
      ·rw[Wk] at Wx;exact absurd Wx (by rw[e_];decide)
     obtain rfl:k_=m:=by omega
     refine⟨(mq,VN),rfl,.inr ⟨λ h_=>?_,by congr 3,?_⟩⟩
     ·have:=VS h_.1;omega
     ·rw[pC,Nat.zero_add,<- hN_,<- Wk];exact Uu.weak (by omega)
    ·refine ai 9 [.nw] [bm ((k_:Int)+1)] λ _=>aS 11 (congrArg (λ v_=>(vI v_:Value)) (show (k_:Int)+1=((k_+1:Nat):Int) by omega)) ?_;refine XH (r-1,k_+1,(eR (eU S j xs) F_),VN) [1] [1,0] ?_
     try dsimp only
     have Xf:=Wd.2.resolve_left (λ h_=>Wx (by rw[Wk];exact h_.2));rcases r with _|r
     ·exact Xf.2.elim
     refine⟨⟨by omega,?_,?_,Uu.weak (by omega),?_⟩,by omega⟩
     ·show ut (eU S j xs) (m8 (decide ((t:Int)=ct)) tr ix vv) (r+1) (k_+1) (eR (eU S j xs) F_);rw[Wk];exact Xf.2
     ·rw[Wk,hN_,pC,Nat.zero_add]
     ·intro h_;have:=VS h_;omega
   ·refine aag [] [] λ n20=>aae 15 (aaf [] [] [1] (jk (g:=(⟨S,A2,fP j.1,c3,bD j.1 0,bD j.1 1,bD j.1 2,j.2,b,o,xs.length,cc,N,full,kz j.1⟩:Gm)) (g0:=(eU S j xs)) (og UG) mq F_ (k+21*(r+1)) YS _ (Wi.weak (by omega)) ⟨hS.up,aq hI,⟨hir,by omega⟩,aq hE,YB.code hj (ay 0)⟩ (by rw[Wk];exact Wd.1) j.2 rfl) ?_);rintro _ T21 ⟨VI,rfl⟩;refine ag [] [16,17,18,19,21] []<|aae 22 (aag [] (aab 4) λ _=>?_);refine ag [] [23] []<|aad<|ae 6 [] λ _=>iw (gS (eU S j xs) F_) 89 (λ XR=>?_) λ XR=>?_
    ·refine ai 10 [.nw] [bm ((k_:Int)+1)] λ _=>aap [] [] [0] (v:=.tuple #[vP mq 0,vI ((k_:Int)+1)]) (H':=(ap [] [T21])) ?_;have er_:r=0:=by
      rcases Wd.2 with ⟨e_,_⟩|⟨e_,_⟩
      ·exact e_
      ·rw[Wk] at XR;exact absurd XR (by rw[e_];decide)
     obtain rfl:k_=m:=by omega
     refine⟨(mq,T21),rfl,.inr ⟨λ h_=>?_,by congr 3,?_⟩⟩
     ·have:=VS h_.1;omega
     ·rw[pC,Nat.zero_add,<- hN_,<- Wk];exact VI.weak (by omega)
    ·refine ai 9 [.nw] [bm ((k_:Int)+1)] λ _=>aS 11 (congrArg (λ v_=>(vI v_:Value)) (show (k_:Int)+1=((k_+1:Nat):Int) by omega)) ?_;refine XH (r-1,k_+1,(eR (eU S j xs) F_),T21) [1] [1,0] ?_
     try dsimp only
     have Xf:=Wd.2.resolve_left (λ h_=>XR (by rw[Wk];exact h_.2));rcases r with _|r
     ·exact Xf.2.elim
     refine⟨⟨by omega,?_,?_,VI.weak (by omega),?_⟩,by omega⟩
     ·show ut (eU S j xs) (m8 (decide ((t:Int)=ct)) tr ix vv) (r+1) (k_+1) (eR (eU S j xs) F_);rw[Wk];exact Xf.2
     ·rw[Wk,hN_,pC,Nat.zero_add]
     ·intro h_;have:=VS h_;omega
theorem Ch(S:Setup)(rs:List Bx)(ds:List Dr)(F:HL)(hS:SetCl F S)(hM:MapIn F S rs ds)(h1:1 <= S.nb)(VV:S.rn <= 1000000)(V0:S.dn <= 1000000):Sp Tryz.prog 111 #[Setup.v S] (ap [] []) F (λ u H'=>∃x:Setup × HL,H'=ap [] [x.2] /\ (u=Setup.v x.1 /\ SetEq S x.1 /\ sQ x.1 rs ds x.2)):=by
 have hp:=hS.pl;have hn:=hS.nb;have hr:=hS.room;refine aas Tryz.func111 rfl (mc hS.blk mn) (A:=[]) (Ts:=[]) rfl λ w0=>?_;refine ae 10 [.own 1] λ n1=>aai (Hp:=[]) (Tp:=[]) [] [] (lZ (some ⟨S.bb,S.bo*9,none⟩) S.nb S.bc (je S) _ (RowL.src wC (by decide) (vc hS.toSh).up) (by omega)) ?_;rintro _ ⟨A2,c3,T4⟩ ⟨rfl,YB⟩;dsimp only at YB;refine ae 7 [.own 1] λ _=>?_;obtain⟨bb,rfl,rfl,TK⟩:=YB.open (by rw[gj];omega);have hcap:S.nb <= c3:=by rw[gj] at TK;exact TK
 refine qO 0 (x:=(bb,.rows 9 c3 (gz (je S)) 106 (0,0)))<|ae 7 [.own 2] λ _=>aao<|aan (σ:=Nat × List Bod × HL) (λ ⟨i,bods,U_⟩=>⟨[(1,vP (n1+0) 0),(2,vP (n1+1) 0),(10,vI (S.nb:Int)),(11,vI (i:Int))],[(bb,.rows 9 c3 (gz bods) 106 (0,0)),((n1+1),.lit [vI 0,.slice none 0 0,vI 0,vI 0,vI 0,vI 0,.slice none 0 0,.slice none 0 0,vI 0,vI 0,vI 0,vI 0,vI 0,vI 0,vI 0,vI 0] 31 (0,0)),((n1+0),.lit [vI S.players,vS bb 0 S.nb c3,vI S.box.x0,vI S.box.y0,vI S.box.x1,vI S.box.y1,.slice S.rA S.rn S.rc,.slice S.dA S.dn S.dc,vI S.fog,vI S.g.x,vI S.g.y,vI S.push,vI S.drag,vI S.rest,vI S.rounds,vI S.fuel] 31 (0,0))],[U_],i <= S.nb /\ bods.length=S.nb /\ (∀k,k<S.nb -> ∃A c,bods.getD k dB=(S.body k).at A c) /\ (∀k,k<i -> ShH (bods.getD k dB).sh U_) /\ ∀k,i <= k -> k<S.nb -> bods.getD k dB=S.body k,S.nb-i⟩) (0,je S,[]) [0,1,2] [0] (⟨aaU _,gj S,λ k hk=>⟨_,_,gG hk⟩,λ k hk=>absurd hk (Nat.not_lt_zero _),λ k _ hk=>gG hk⟩) ?_;rintro⟨i,bods,U_⟩ ⟨Um,Tn,U5,U4,VC⟩ VQ;refine ae 6 [] λ _=>aal ((i:Int)<(S.nb:Int)) 12 (λ h8=>?_) λ h8=>?_
 ·refine ae 7 [] λ _=>?_;have UH:(RowL lY 29 F (bods.getD i dB).sh.A (bods.getD i dB).sh.poly.length (bods.getD i dB).sh.poly /\ (bods.getD i dB).sh.poly.length <= 1000000) /\ ((bods.getD i dB).sh.poly=[] \/ 3 <= (bods.getD i dB).sh.poly.length):=by rw[VC i (aaS _) (by omega)];exact hS.shp i (by omega)
  have Td:=UH.1.1;have aaJ:(bods.getD i dB).sh.poly.length <= 100000000:=by have:=UH.1.2;omega
  refine ae 4 [] λ _=>aak [14] []<|aF [] [0,2,3,5,1,4,6,7,8,9] [.own 2,.own 2,.ix i,.row 0 i 1] [((0+i*9)+1)=i*9+1 /\ i<c3,(i:Int)=((i:Nat):Int) /\ i<S.nb]<|aae 10 (aaf [] (Hp:=[]) (Tp:=[]) [] [] (ng ((bods.getD i dB).sh.A) ((bods.getD i dB).sh.poly.length) ((bods.getD i dB).sh.cap) ((bods.getD i dB).sh.poly) _ (RowL.src Bm (by decide) Td.up) aaJ) ?_);rintro _ ⟨A9,XG,SX⟩ ⟨rfl,Xm⟩;dsimp only at Xm;refine aF [] [11,12,13] [.ix i] [(i:Int)=((i:Nat):Int) /\ i<S.nb]<|aae 14 (eh [] [.row 0 i 1] [((0+i*9)+1)=i*9+1 /\ i<c3] λ _=>?_);refine aad<|ai 6 [.nw] [bm ((i:Int)+1)] λ _=>ez 0 (congrArg (λ v_=>(.rows 9 c3 v_ 106 (0,0):Blk)) (show (eF (gz bods) i 1 (.slice A9 ((bods.getD i dB).sh.poly.length) XG))=(gz (bods.set i ((bods.getD i dB).at A9 XG))) from (C3 (by omega) A9 XG)))<|oO [1,0]<|qP ?_;refine VQ (i+1,(bods.set i ((bods.getD i dB).at A9 XG)),U_++SX) [0,1,2] [0] ?_
  try dsimp only
  refine⟨⟨by omega,by rw[List.length_set];exact Tn,λ t ht=>?_,λ t ht=>?_,λ t ZM Tu=>?_⟩,by omega⟩
  ·rcases Decidable.em (i=t) with rfl|h_
   ·rw[fW (by omega),VC i (aaS _) ht];exact⟨_,_,rfl⟩
   ·rw[eT h_];exact U5 t ht
  ·rcases Decidable.em (i=t) with rfl|h_
   ·rw[fW (by omega)];exact ShH.right (vd UH.2 UH.1.2 Xm)
   ·rw[eT h_];exact(U4 t (by omega)).left
  ·rw[eT (by omega)];exact VC t (by omega) Tu
 ·refine ae 10 [.own 2] λ _=>aai (Hp:=[]) (Tp:=[]) [] [] (nh S.rA S.rn S.rc rs _ (RowL.src HV (by decide) hM.rooms.up) (by omega)) ?_;rintro _ ⟨Wz,Vb,TM⟩ ⟨rfl,TP⟩;dsimp only at TP;refine ae 8 [.own 2,.own 2] λ _=>aai (Hp:=[]) (Tp:=[]) [] [] (l7 S.dA S.dn S.dc ds _ (RowL.src HW (by decide) hM.doors.up) (by omega)) ?_;rintro _ ⟨A17,c18,VM⟩ ⟨rfl,Xl⟩;dsimp only at Xl;refine ae 10 (ow 2 17++ow 1 16) λ _=>aap (ow 1 16) [0] [0,1,2] (v:=.agg #[vI S.players,vS bb 0 S.nb c3,vI S.box.x0,vI S.box.y0,vI S.box.x1,vI S.box.y1,.slice Wz S.rn Vb,.slice A17 S.dn c18,vI S.fog,vI S.g.x,vI S.g.y,vI S.push,vI S.drag,vI S.rest,vI S.rounds,vI S.fuel]) (H':=(ap [(bb,.rows 9 c3 (gz bods) 106 (0,0))] [VM,TM,U_])) ?_;have ei:i=S.nb:=by omega
  subst ei;have Va:∀k,bods.getD (0+k) dB=bods.getD k dB:=λ k=>by rw[Nat.zero_add]
  refine⟨((⟨S.players,bb,0,S.nb,c3,c3,bods,S.box,Wz,S.rn,Vb,A17,S.dn,c18,S.fog,S.g,S.push,S.drag,S.rest,S.rounds,S.fuel⟩:Setup),[(bb,.rows 9 c3 (gz bods) 106 (0,0))]++(VM++TM++U_)),(by simp[ap]),rfl,⟨⟨rfl,rfl,rfl,rfl,rfl,rfl,rfl,rfl,rfl,rfl,rfl,rfl⟩,λ k hk=>?_,rfl,Tn⟩,λ F2 hF=>⟨⟨⟨hp,by omega⟩,hF _ (by simp),(by show 0+S.nb <= c3;omega),λ k hk=>?_⟩,?_,?_⟩⟩
  ·obtain⟨A,c,h⟩:=U5 k hk;exact⟨A,c,by show bods.getD (0+k) dB=_;rw[Va];exact h⟩
  ·show ShIn F2 (bods.getD (0+k) dB).sh;rw[Va];exact U4 k hk F2 λ x hx=>hF x (by simp[hx])
  ·have h_:=TP.rowL (F:=F2) λ x hx=>hF x (by simp[hx]);rw[hM.rooms.len] at h_;exact h_
  ·have h_:=Xl.rowL (F:=F2) λ x hx=>hF x (by simp[hx]);rw[hM.doors.len] at h_;exact h_
inductive ExeH(rs_:List Bx)(ds_:List Dr)(bp xp:Nat)(S S3:Setup)(ct tr ix vv:Int)(W:Nat -> List Int)(Ln:Nat -> Nat)(n:Nat)(pre:List (List Inp)):HL -> Prop
 | mk {rc sc lc:Nat} {rA sA lA:Option Addr} {rl sl:List Rw} {U Er Rr Es Ss El:HL} (h3:SetEq S S3) (hU:sQ S3 rs_ ds_ U) (hr:SlIs jz 56 rl rA rc Er) (hrl:rl.length=n) (hrr:RwsT rl pre Rr) (hs:SlIs jz 22 sl sA sc Es) (hsl:sl.length=n+1) (hst:StT sl W Ss) (hl:SlIs dE 3 (kJ n Ln) lA lc El) :
  ExeH rs_ ds_ bp xp S S3 ct tr ix vv W Ln n pre (ap [(xp,.lit (Setup.l S3++[vP bp 0,.slice rA n rc,vI ct,vI tr,vI ix,vI vv,.slice sA (n+1) sc,.slice lA n lc]) 235 (0,0))] [U,Er,Rr,Es,Ss,El])
theorem DP{S:Setup}{F:HL}(hS:SetCl F S){cs:List Int}(h:bJ S S.nb=cs):Sp Tryz.prog 82 #[Setup.v S] (ap [] []) F (λ u H'=>∃q,H'=ap [(q,.rows 1 cs.length (aM cs) 3 (0,0))] [] /\ u=vS q 0 cs.length cs.length):=by
 subst h;rw[show (bJ S S.nb).length=(sizeOf S).toNat by rw[fU]];exact ve S F hS
theorem MF{mb:Nat}{M:MemS}{k:Nat}{T F:HL}{cs:List Int}(he:M.cs=cs)(hM:MemH mb M k T)(hT:∀x∈T,x∈F):Sp Tryz.prog 13 #[vP mb 0] (ap [] []) F (λ u H'=>∃q,H'=ap [(q,.rows 1 cs.length (aM cs) 3 (0,0))] [] /\ u=vS q 0 cs.length cs.length):=he ▸ mA mb M k T F hM hT
theorem J0(S:Setup)(rs_:List Bx)(ds_:List Dr)(bp n cap:Nat)(J:Nat -> Nat × Int)(A:Option Addr)(rs:List Rw)(xss:List (List Inp))(ct tr ix vv:Int)(W:Nat -> List Int)(Ln:Nat -> Nat)(F:HL)(hS:SetCl F S)(hM:MapIn F S rs_ ds_)(h1:1 <= S.nb)(VV:S.rn <= 1000000)(V0:S.dn <= 1000000)(C_:(sizeOf S).toNat <= 1000000)(hE:dp F)(hr:RowL jz 56 F A n rs)(hw:RwsIn F rs xss)(hxl:∀k,k<n -> 1 <= (xss.getD k []).length /\ (xss.getD k []).length <= 1000)(hn:n <= 50)(hW0:bJ S S.nb=W 0)(hAt:∀i,i<n -> (J i).1<5 /\ AtOk F bp (i:Int) (J i))(hX:∀S3,SetEq S S3 -> ∀t,t<n -> XTk S (eU S3 (J t) (xss.getD t [])) t ct tr ix vv W Ln):Sp Tryz.prog 67 #[Setup.v S,vP bp 0,.slice A n cap,.agg #[vI ct,vI tr,vI ix,vI vv]] (ap [] []) F (λ u H'=>∃x:Nat × Setup × HL,H'=ap [] [x.2.2] /\ (u=vP x.1 0 /\ SetEq S x.2.1 /\ ExeH rs_ ds_ bp x.1 S x.2.1 ct tr ix vv W Ln n xss x.2.2)):=by
 refine aas Tryz.func67 rfl mn (A:=[]) (Ts:=[]) rfl λ w0=>?_;refine ae 8 [] λ n1=>aak [] []<|ag [] [0,2,3] (ow 1 16++(aab 4))<|aae 1 (aaf [] (Hp:=[]) (Tp:=[]) [] [] (Ch S rs_ ds_ _ hS.up hM.up h1 VV V0) ?_);rintro _ ⟨S2,U3⟩ ⟨rfl,he4,hU5⟩;dsimp only at he4 hU5;refine ag [] [4] []<|aae 5 (aag [] [] λ n6=>?_);refine ag [] [6] []<|aad<|ae 4 (ow 2 16) λ _=>aai (Hp:=[]) (Tp:=[]) [] [] (DP hS.up hW0) ?_;rintro _ q7 rfl;refine ae 12 [] λ _=>aao<|aao<|aao<|aao<|aao<|aan (σ:=Nat × (Option Addr × Nat × List Rw) × (Option Addr × Nat × List Rw) × (Option Addr × Nat) × Nat × HL × HL × HL × HL × HL) (λ ⟨i_,⟨ra_,rc_,ZS⟩,⟨sa_,sc_,YU⟩,⟨la_,Uz⟩,q_,Er_,Rr_,Es_,Ss_,El_⟩=>⟨[(9,vP (n6+0) 0),(10,vS q_ 0 ((W i_).length) ((W i_).length)),(23,.slice A n cap),(24,vI (n:Int)),(25,vI (i_:Int))],[((n6+0),.lit [vI S2.players,vS S2.bb (S2.bo*9) S2.nb S2.bc,vI S2.box.x0,vI S2.box.y0,vI S2.box.x1,vI S2.box.y1,.slice S2.rA S2.rn S2.rc,.slice S2.dA S2.dn S2.dc,vI S2.fog,vI S2.g.x,vI S2.g.y,vI S2.push,vI S2.drag,vI S2.rest,vI S2.rounds,vI S2.fuel,vP bp 0,.slice ra_ i_ rc_,vI ct,vI tr,vI ix,vI vv,.slice sa_ i_ sc_,.slice la_ i_ Uz] 235 (0,0)),(q_,.rows 1 ((W i_).length) (aM (W i_)) 3 (0,0))],[Er_,Rr_,Es_,Ss_,El_,U3],i_ <= n /\ SlIs jz 56 ZS ra_ rc_ Er_ /\ ZS.length=i_ /\ RwsT ZS (xss.take i_) Rr_ /\ SlIs jz 22 YU sa_ sc_ Es_ /\ YU.length=i_ /\ StT YU W Ss_ /\ SlIs dE 3 (kJ i_ Ln) la_ Uz El_,n-i_⟩) (0,(none,0,[]),(none,0,[]),(none,0),q7,[],[],[],[],[]) [1,0] [0,1,2,3,4,5] (⟨aaU _,aar _ _,rfl,RwsT.nil,aar _ _,rfl,StT.nil _,aar _ _⟩) ?_;rintro⟨i_,⟨ra_,rc_,ZS⟩,⟨sa_,sc_,YU⟩,⟨la_,Uz⟩,q_,Er_,Rr_,Es_,Ss_,El_⟩ ⟨Yu,UQ,Td,aaD,IF,TN,acU,adu⟩ Wt;refine ae 6 [] λ _=>aal ((i_:Int)<(n:Int)) 26 (λ Ti=>?_) λ Ti=>?_
 ·refine ae 8 [] λ _=>?_;obtain⟨al1,X5,ajt,aov,ak3,ZK,adh,ake,adH⟩:=hr.at (k:=i_) (by omega);refine aS 23 (congrArg (λ v_=>(.slice v_ n cap:Value)) ZK)<|RN.ro (λ _=>(mc adh mn))<|ai 2 [.ix i_,.rorow 0 (X5+i_) 0] [(X5*1+i_*1)=(X5+i_)*1+0 /\ (X5+i_)<ajt,(i_:Int)=((i_:Nat):Int) /\ i_<n] λ _=>aS 29 (congrArg (λ v_=>(.slice v_.A v_.n v_.c:Value)) adH) ?_;obtain⟨abB,ZT,ajw,ais,aiJ,aiv,aeh,adB,acL,akC⟩:=hw.get (k:=i_) (by rw[hr.len];omega);refine aS 29 (congrArg (λ v_:Rw=>Value.slice v_.A v_.n v_.c) aiv) ?_;have hl_:RowL iE 151 F (some ⟨abB,ZT*3,none⟩) (xss.getD i_ []).length (xss.getD i_ []):=.rows abB ZT ajw ais (0,0) _ _ aeh adB rfl acL;have acN:=hxl i_ (by omega);refine ae 5 [] λ _=>aak [8,11] []<|ag [] [0,1,5,2,3,4] [.own 0]<|aae 6 (aaf [] (Hp:=[]) (Tp:=[]) [] [] (rx (some ⟨abB,ZT*3,none⟩) ((xss.getD i_ []).length) aiJ (xss.getD i_ []) _ (hl_.up.src sk (by decide)) (by omega)) ?_);rintro _ ⟨Wz,Vb,TM⟩ ⟨rfl,TP⟩;dsimp only at TP;refine aae 7 (aag [] [] λ n17=>?_);refine aae 8 (wB [] NH ZS [(⟨Wz,(xss.getD i_ []).length,Vb⟩:Rw)] 1 0 Td.symm UQ (by simp;omega) ?_);rintro A18 c19 V5 ⟨ac3,amk⟩;refine ag [] [9,10] []<|aae 11 (aag [] [.own 1] λ _=>?_);refine aad<|ae 10 [.own 1] λ n23=>eA NV YU [(⟨some ⟨q_,0,none⟩,(W i_).length,(W i_).length⟩:Rw)] 3 0 TN.symm IF (by simp;omega) ?_;rintro A24 c25 T26 ⟨ac2,amj⟩;refine ae 6 [.own 2] λ _=>?_;have adV:=TP;obtain⟨_,adT⟩:=TP;rcases adT with ⟨agl,_⟩|⟨bw_,rfl,rfl,anw⟩
  ·exfalso;rw[agl] at acN;exact absurd acN.1 (by decide)
  have Yh:=hX S2 he4 i_ (by omega);refine ae 3 [] λ _=>aai (Hp:=[]) (Tp:=[]) [] [] (Aj S2 bp (n6+0) (i_+1) (i_+1) i_ c19 c25 Uz q_ bw_ 0 Vb Vb (Ln i_) 0 A18 A24 la_ ct tr ix vv (-1) i_ (J i_) (ZS++[(⟨some ⟨bw_,0,none⟩,(xss.getD i_ []).length,Vb⟩:Rw)]) (YU++[(⟨some ⟨q_,0,none⟩,(W i_).length,(W i_).length⟩:Rw)]) (xss.getD i_ []) (xss.getD i_ []) (W i_) _ (au 2) (hU5 _ (ay 6)).1 (aq hE) (hAt i_ (by omega)).1 ((hAt i_ (by omega)).2.mono λ x hx=>aq hx) (ac2.rowN (ay 0) (by simp[TN])) (by omega) (by rw[kB,if_neg (by omega),if_pos TN.symm]) (au 3) (ac3.rowN (ay 1) (by simp[Td])) (by omega) (by rw[kB,if_neg (by omega),if_pos Td.symm]) ((ay 2) _ (List.mem_singleton.2 rfl)) (by omega) (by omega) (λ k hk=>by rw[Nat.zero_add]) (by have:=Yh.len.1;have:=C_;omega) Yh.gd (by have:=Yh.le;omega) (by decide) (by omega)) ?_;rintro _ ⟨mq,Tq⟩ h_;obtain⟨_,rfl,VG⟩:=h_.resolve_left (λ h_=>by omega);dsimp only at VG;refine ae 16 [.own 2] λ n29=>eA jd (kJ i_ Ln) [((Ln i_+1:Nat):Int)] 6 0 (kK i_ Ln).symm adu (by have h_:=kK i_ Ln;rw[h_];show i_+1 <= _;omega) ?_;rintro A30 c31 XT ⟨agy,ami⟩;refine ae 7 [.own 3] λ _=>aai (Hp:=[]) (Tp:=[]) [] [] (MF Yh.next VG (ay 1)) ?_;rintro _ q35 rfl;refine ai 8 [.nw] [bm ((i_:Int)+1)] λ _=>aS 23 (congrArg (λ v_=>(.slice v_ n cap:Value)) ZK.symm)<|Jn 5<|oO [7,0,1,2,3,4,5,6,8]<|qP<|oO [6,5,0,1,2,3,4,7]<|qP ?_;refine Wt (i_+1,(A18,c19,ZS++[(⟨some ⟨bw_,0,none⟩,(xss.getD i_ []).length,Vb⟩:Rw)]),(A24,c25,YU++[(⟨some ⟨q_,0,none⟩,(W i_).length,(W i_).length⟩:Rw)]),(A30,c31),q35,V5,Rr_++[(bw_,.rows 3 Vb (bu iE (xss.getD i_ [])) 151 (0,0))],T26,Ss_++[(q_,.rows 1 ((W i_).length) (aM (W i_)) 3 (0,0))],XT) [4,0] [5,0,4,1,2,6] ?_
  try dsimp only
  refine⟨⟨by omega,ac3,by simp[Td],?_,ac2,by simp[TN],acU.snoc (by rw[TN]),?_⟩,by omega⟩
  ·rw[F5 (by rw[<- hw.len,hr.len];omega) []];exact aaD.snocC adV (hxl i_ (by omega)).1 rfl
  ·rw[Cg];exact agy
 ·obtain rfl:n=i_:=by omega
  refine ae 15 [.own 0] λ n36=>eA NV YU [(⟨some ⟨q_,0,none⟩,(W n).length,(W n).length⟩:Rw)] 2 0 TN.symm IF (by simp;omega) ?_;rintro A37 c38 Wy ⟨agw,amh⟩;refine ae 11 [.own 1] λ _=>Jn 2<|oO [4,0,1,2,3,5,6]<|qP<|aap [] [1] [5,2,3,1,0,4] (v:=vP (n6+0) 0) (H':=(ap [((n6+0),.lit [vI S2.players,vS S2.bb (S2.bo*9) S2.nb S2.bc,vI S2.box.x0,vI S2.box.y0,vI S2.box.x1,vI S2.box.y1,.slice S2.rA S2.rn S2.rc,.slice S2.dA S2.dn S2.dc,vI S2.fog,vI S2.g.x,vI S2.g.y,vI S2.push,vI S2.drag,vI S2.rest,vI S2.rounds,vI S2.fuel,vP bp 0,.slice ra_ n rc_,vI ct,vI tr,vI ix,vI vv,.slice A37 (n+1) c38,.slice la_ n Uz] 235 (0,0))] [U3,Er_,Rr_,Wy,(Ss_++[(q_,.rows 1 ((W n).length) (aM (W n)) 3 (0,0))]),El_])) ?_;have acV:=acU.snoc (q:=q_) (cs:=W n) (by rw[TN]);rw[List.take_of_length_le (by rw[<- hw.len,hr.len];exact aaS _)] at aaD;exact⟨((n6+0),S2,ap [((n6+0),.lit [vI S2.players,vS S2.bb (S2.bo*9) S2.nb S2.bc,vI S2.box.x0,vI S2.box.y0,vI S2.box.x1,vI S2.box.y1,.slice S2.rA S2.rn S2.rc,.slice S2.dA S2.dn S2.dc,vI S2.fog,vI S2.g.x,vI S2.g.y,vI S2.push,vI S2.drag,vI S2.rest,vI S2.rounds,vI S2.fuel,vP bp 0,.slice ra_ n rc_,vI ct,vI tr,vI ix,vI vv,.slice A37 (n+1) c38,.slice la_ n Uz] 235 (0,0))] [U3,Er_,Rr_,Wy,(Ss_++[(q_,.rows 1 ((W n).length) (aM (W n)) 3 (0,0))]),El_]),by simp[ap],rfl,he4,ExeH.mk (xp:=(n6+0)) he4 hU5 UQ Td aaD agw (by simp[TN]) acV adu⟩
theorem F6(S:Setup)(bp xp n1 n2 n3 rc sc lc q:Nat)(rA sA lA:Option Addr)(ct tr ix vv:Int)(t:Nat)(sl:List Rw)(cs:List Int)(F:HL)(hx:(xp,.lit (Setup.l S++[vP bp 0,.slice rA n1 rc,vI ct,vI tr,vI ix,vI vv,.slice sA n2 sc,.slice lA n3 lc]) 235 (0,0))∈F)(hsl:RowL jz 22 F sA n2 sl)(Zk:t<n2)(hst:sl.getD t jz.dflt=⟨some ⟨q,0,none⟩,cs.length,cs.length⟩)(hq:(q,.rows 1 cs.length (aM cs) 3 (0,0))∈F)(BY:cs.length <= 1000000):Sp Tryz.prog 345 #[vP xp 0,vI (t:Int)] [] F (λ u H'=>u=.int .u64 (gx cs) /\ H'=[]):=by
 refine aas Tryz.func345 rfl (mc hx mn) (A:=[]) (Ts:=[]) rfl λ w0=>?_;refine ae 11 [] λ _=>aal ((t:Int)<0) 7 (λ h1=>?_) λ h1=>?_
 ·(exfalso;omega)
 ·refine ae 10 [.ro 0] λ _=>aal ((t:Int) >= (n2:Int)) 15 (λ h2=>?_) λ h2=>?_
  ·(exfalso;omega)
  ·refine ae 10 [.ro 0] λ _=>?_;obtain⟨qx3,X3,Nx3,fx3,aiq,abt,aaH,agQ,aa0⟩:=hsl.at (k:=t) (by omega);refine aS 19 (congrArg (λ v_=>(.slice v_ n2 sc:Value)) abt)<|RN.ro (λ _=>(mc hx (mc aaH mn)))<|ai 2 [.ix t,.rorow 1 (X3+t) 0] [(X3*1+t*1)=(X3+t)*1+0 /\ (X3+t)<Nx3,(t:Int)=((t:Nat):Int) /\ t<n2] λ _=>aS 22 (congrArg (λ v_=>(.slice v_.A v_.n v_.c:Value)) aa0)<|aS 22 (congrArg (λ v_:Rw=>Value.slice v_.A v_.n v_.c) hst)<|aah (qp q cs.length cs _ (aq hq) (aaS _) BY)<|ae 3 [] λ _=>?_;exact aap [] [] [] ⟨rfl,rfl⟩
def RootOk(F:HL)(p n:Nat)(r:Int):Prop:=∀F',(∀x∈F,x∈F') -> Sp Tryz.prog 345 #[vP p 0,vI (n:Int)] [] F' (λ u H'=>u=.int .u64 r /\ H'=[])
theorem RootOk.mono{F F':HL}{p n:Nat}{r:Int}(h:RootOk F p n r)(hs:∀x∈F,x∈F'):RootOk F' p n r:=λ F2 h2=>h F2 λ x hx=>h2 x (hs x hx)
section
variable {rs_:List Bx} {ds_:List Dr} {bp xp n:Nat} {S S3:Setup} {ct tr ix vv:Int} {W:Nat -> List Int} {Ln:Nat -> Nat} {pre:List (List Inp)} {G0 F:HL}
theorem ExeH.root(h:ExeH rs_ ds_ bp xp S S3 ct tr ix vv W Ln n pre G0)(hF:∀x∈G0,x∈F){t:Nat}(ht:t <= n)(hl:(W t).length <= 1000000):RootOk F xp t (gx (W t)):=λ F' Th=>by
 cases h with
 | mk h3 hU hr hrl hrr hs hsl hst hle =>
  rename_i rc sc lc rA sA lA rl sl U Er Rr Es Ss El;have hm:∀ {T:HL},T∈[U,Er,Rr,Es,Ss,El] -> ∀x∈T,x∈F':=λ hT x hx=>Th x (hF x (aau _ (List.mem_flatten.2 ⟨_,hT,hx⟩)));obtain⟨q,e,hq⟩:=hst F' (hm (by simp)) t (by omega);exact F6 S3 bp xp n (n+1) n rc sc lc q rA sA lA ct tr ix vv t sl (W t) F' (Th _ (hF _ (by simp[ap]))) (hs.rowN (hm (by simp)) hsl) (by omega) e hq hl
end
theorem SlIs.openL{α:Type}{e:Enc α}{T:TypeId}{l:List α}{A:Option Addr}{cap:Nat}{Hl:HL}(h:SlIs e T l A cap Hl)(hz:bx A)(hw:0<e.w)(hl:0<l.length):∃b rest,A=some ⟨b,0,none⟩ /\ Hl=[(b,.rows e.w cap (bu e (l++rest)) T (0,0))] /\ (l++rest).length=cap:=by
 rcases h with ⟨_,_,rfl,_⟩|⟨b,o,full,rfl,rfl,h3,h4,h5⟩
 ·simp at hl
 ·have ho:o=0:=by
   have h6:o*e.w=0:=hz;rcases Nat.mul_eq_zero.1 h6 with h|h
   ·exact h
   ·omega
  subst ho;have:l++full.drop l.length=full:=by
   conv=>lhs;lhs;rw[<- h5]
   rw[List.drop_zero,List.take_append_drop]
  refine⟨b,full.drop l.length,by rw[Nat.zero_mul],?_,by rw[this];omega⟩;rw[this,Nat.zero_add]
def rg(lo:Int)(n:Nat):List Int:=(List.range n).map λ k:Nat=>lo+(k:Int)
theorem MG(lo:Int)(n:Nat):rg lo (n+1)=rg lo n++[lo+(n:Int)]:=by simp[rg,List.range_succ]
theorem fi(lo:Int)(n:Nat):(rg lo n).length=n:=by simp[rg]
theorem tR{lo y:Int}{n:Nat}:y∈rg lo n↔lo <= y /\ y<lo+(n:Int):=by
 unfold rg;rw[List.mem_map];constructor
 ·rintro⟨k,hk,rfl⟩;have:=List.mem_range.1 hk;omega
 ·intro h;exact⟨(y-lo).toNat,List.mem_range.2 (by omega),by omega⟩
theorem fF(l:List Int)(A:Option Addr)(c:Nat)(T:HL)(lo:Int)(n:Nat)(F:HL)(hs:SlIs dE 3 l A c T)(hz:bx A)(hl:l.length <= 100000)(hlo:-1000000000 <= lo /\ lo <= 2000000000)(hn:n <= 1000):Sp Tryz.prog 44 #[.slice A l.length c,vI lo,vI (lo+(n:Int))] (ap [] [T]) F (λ u H'=>∃x:List Int × Option Addr × Nat × HL,H'=ap [] [x.2.2.2] /\ (u=.slice x.2.1 x.1.length x.2.2.1 /\ SlIs dE 3 x.1 x.2.1 x.2.2.1 x.2.2.2 /\ bx x.2.1 /\ x.1=l++rg lo n)):=by
 refine aas Tryz.func44 rfl mn (A:=[]) (Ts:=[T]) rfl λ w0=>?_;refine ae 13 [] λ _=>aan (σ:=Nat × Int × Option Addr × Nat × HL) (λ ⟨k,q,A_,c_,T_⟩=>⟨[(0,.slice A_ (l.length+k) c_),(2,vI (lo+(n:Int))),(7,vI q)],[],[T_],k <= n /\ q=lo+(k:Int) /\ SlIs dE 3 (l++rg lo k) A_ c_ T_ /\ bx A_,n-k⟩) (0,lo,A,c,T) [] [0] (⟨aaU _,by omega,by simpa [rg] using hs,hz⟩) ?_;rintro⟨k,q,A_,c_,T_⟩ ⟨hk_,hq_,IF,WV⟩ UP;refine ae 8 [] λ _=>aal (q<lo+(n:Int)) 11 (λ h3=>?_) λ h3=>?_
 ·refine ae 9 [] λ n4=>eA jd (l++rg lo k) [q] 0 0 (by rw[aaV,fi]) IF (by rw[aaV,fi];show l.length+k+1 <= 100000000;omega) ?_;rintro A5 c6 T7 ⟨hs8,hz9⟩;refine ai 9 [.nw] [bm (q+1)] λ _=>?_;have Vr:=hz9 WV;refine UP (k+1,q+1,A5,c6,T7) [] [0] ?_
  try dsimp only
  refine⟨⟨by omega,by omega,?_,Vr⟩,by omega⟩;rw[MG,<- aaF,show lo+(k:Int)=q by omega];exact hs8
 ·refine ae 12 [] λ _=>aap [] [] [0] (v:=.slice A_ (l.length+k) c_) (H':=(ap [] [T_])) ?_;obtain rfl:k=n:=by omega
  exact⟨(l++rg lo k,A_,c_,T_),rfl,by rw[aaV,fi],IF,WV,rfl⟩
def Ci(M:MemS)(k:Int):List Int:=if 0 <= i64.wrap (M.get 7-k) /\ i64.wrap (M.get 7-k)<16 then [M.get (16+i64.wrap (M.get 7-k))] else []
def jn(M:MemS):List Int:=Ci M 1++Ci M 2
theorem DQ(M:MemS)(k:Int):(Ci M k).length <= 1:=by unfold Ci;split <;> simp
theorem wb(M:MemS):(jn M).length <= 2:=by have h1:=DQ M 1;have h2:=DQ M 2;unfold jn;rw[aaV];omega
theorem qA(mb k:Nat)(M:MemS)(T F:HL)(h:MemH mb M k T)(hT:∀x∈T,x∈F):Sp Tryz.prog 45 #[.iface 40 (vP mb 0)] [] F (λ u H'=>∃x:List Int × Option Addr × Nat × HL,H'=ap [] [x.2.2.2] /\ (u=.slice x.2.1 x.1.length x.2.2.1 /\ SlIs dE 3 x.1 x.2.1 x.2.2.1 x.2.2.2 /\ bx x.2.1 /\ x.1=jn M)):=by
 refine aas Tryz.func45 rfl mn (A:=[]) (Ts:=[]) rfl λ w0=>?_;refine ae 13 [] λ _=>aah (ar 7 h (λ x hx=>aq (hT x hx)))<|ae 10 [] λ _=>aaq 2<|ae 25 [] λ _=>aal (i64.wrap ((M.get 7)-1) >= 0) 18 (λ h1=>?_) λ h1=>?_
 ·refine ae 5 [] λ _=>aal (i64.wrap ((M.get 7)-1)<16) 21 (λ h2=>?_) λ h2=>?_
  ·refine ai 6 [.nw] [bm (16+(i64.wrap ((M.get 7)-1)))] λ _=>aah (ar (16+(i64.wrap ((M.get 7)-1))) h (λ x hx=>aq (hT x hx)))<|ae 1 [] λ n3=>aao<|eA jd ([]) [M.get (16+(i64.wrap ((M.get 7)-1)))] 0 0 rfl (aar _ _) (aaN rfl) ?_;rintro A4 c5 T6 ⟨hs7,hz8⟩;refine ae 35 [] λ _=>aal (i64.wrap ((M.get 7)-2) >= 0) 18 (λ h9=>?_) λ h9=>?_
   ·refine ae 5 [] λ _=>aal (i64.wrap ((M.get 7)-2)<16) 21 (λ Ti=>?_) λ Ti=>?_
    ·refine ai 6 [.nw] [bm (16+(i64.wrap ((M.get 7)-2)))] λ _=>aah (ar (16+(i64.wrap ((M.get 7)-2))) h (λ x hx=>aq (hT x hx)))<|ae 1 [] λ n11=>eA jd ([]++[M.get (16+(i64.wrap ((M.get 7)-1)))]) [M.get (16+(i64.wrap ((M.get 7)-2)))] 0 0 rfl hs7 (aaN rfl) ?_;rintro A12 c13 VP ⟨V8,acD⟩;refine ae 29 [] λ _=>aap [] [] [0] (v:=.slice A12 2 c13) (H':=(ap [] [VP])) ?_;refine⟨([]++[M.get (16+(i64.wrap ((M.get 7)-1)))]++[M.get (16+(i64.wrap ((M.get 7)-2)))],A12,c13,VP),rfl,rfl,V8,(acD (hz8 trivial)),?_⟩;unfold jn Ci
     first|(rw[if_pos (by omega),if_pos (by omega)] <;> rfl)|(rw[if_pos (by omega),if_neg (by omega)] <;> rfl)|(rw[if_neg (by omega),if_pos (by omega)] <;> rfl)
    ·refine ae 29 [] λ _=>aap [] [] [0] (v:=.slice A4 1 c5) (H':=(ap [] [T6])) ?_;refine⟨([]++[M.get (16+(i64.wrap ((M.get 7)-1)))],A4,c5,T6),rfl,rfl,hs7,(hz8 trivial),?_⟩;unfold jn Ci
     first|(rw[if_pos (by omega),if_pos (by omega)] <;> rfl)|(rw[if_pos (by omega),if_neg (by omega)] <;> rfl)|(rw[if_neg (by omega),if_pos (by omega)] <;> rfl)
   ·refine ae 34 [] λ _=>aap [] [] [0] (v:=.slice A4 1 c5) (H':=(ap [] [T6])) ?_;refine⟨([]++[M.get (16+(i64.wrap ((M.get 7)-1)))],A4,c5,T6),rfl,rfl,hs7,(hz8 trivial),?_⟩;unfold jn Ci
    first|(rw[if_pos (by omega),if_pos (by omega)] <;> rfl)|(rw[if_pos (by omega),if_neg (by omega)] <;> rfl)|(rw[if_neg (by omega),if_pos (by omega)] <;> rfl)
  ·refine ae 35 [] λ _=>aal (i64.wrap ((M.get 7)-2) >= 0) 18 (λ h17=>?_) λ h17=>?_
   ·refine ae 5 [] λ _=>aal (i64.wrap ((M.get 7)-2)<16) 21 (λ h18=>?_) λ h18=>?_
    ·refine ai 6 [.nw] [bm (16+(i64.wrap ((M.get 7)-2)))] λ _=>aah (ar (16+(i64.wrap ((M.get 7)-2))) h (λ x hx=>aq (hT x hx)))<|ae 1 [] λ n19=>aao<|eA jd ([]) [M.get (16+(i64.wrap ((M.get 7)-2)))] 0 0 rfl (aar _ _) (aaN rfl) ?_;rintro A20 c21 UX ⟨U6,Z4⟩;refine ae 29 [] λ _=>aap [] [] [0] (v:=.slice A20 1 c21) (H':=(ap [] [UX])) ?_;refine⟨([]++[M.get (16+(i64.wrap ((M.get 7)-2)))],A20,c21,UX),rfl,rfl,U6,(Z4 trivial),?_⟩;unfold jn Ci
     first|(rw[if_pos (by omega),if_pos (by omega)] <;> rfl)|(rw[if_pos (by omega),if_neg (by omega)] <;> rfl)|(rw[if_neg (by omega),if_pos (by omega)] <;> rfl)
    ·refine ae 29 [] λ _=>aao<|aap [] [] [0] (v:=.slice none 0 0) (H':=(ap [] [([]:HL)])) ?_;exact⟨([],none,0,[]),rfl,rfl,aar _ _,trivial,by unfold jn Ci;rw[if_neg (by omega),if_neg (by omega)];rfl⟩
   ·refine ae 34 [] λ _=>aao<|aap [] [] [0] (v:=.slice none 0 0) (H':=(ap [] [([]:HL)])) ?_;exact⟨([],none,0,[]),rfl,rfl,aar _ _,trivial,by unfold jn Ci;rw[if_neg (by omega),if_neg (by omega)];rfl⟩
 ·refine ae 40 [] λ _=>aal (i64.wrap ((M.get 7)-2) >= 0) 18 (λ h25=>?_) λ h25=>?_
  ·refine ae 5 [] λ _=>aal (i64.wrap ((M.get 7)-2)<16) 21 (λ TG=>?_) λ TG=>?_
   ·refine ai 6 [.nw] [bm (16+(i64.wrap ((M.get 7)-2)))] λ _=>aah (ar (16+(i64.wrap ((M.get 7)-2))) h (λ x hx=>aq (hT x hx)))<|ae 1 [] λ n27=>aao<|eA jd ([]) [M.get (16+(i64.wrap ((M.get 7)-2)))] 0 0 rfl (aar _ _) (aaN rfl) ?_;rintro A28 c29 YR ⟨agz,agb⟩;refine ae 29 [] λ _=>aap [] [] [0] (v:=.slice A28 1 c29) (H':=(ap [] [YR])) ?_;refine⟨([]++[M.get (16+(i64.wrap ((M.get 7)-2)))],A28,c29,YR),rfl,rfl,agz,(agb trivial),?_⟩;unfold jn Ci
    first|(rw[if_pos (by omega),if_pos (by omega)] <;> rfl)|(rw[if_pos (by omega),if_neg (by omega)] <;> rfl)|(rw[if_neg (by omega),if_pos (by omega)] <;> rfl)
   ·refine ae 29 [] λ _=>aao<|aap [] [] [0] (v:=.slice none 0 0) (H':=(ap [] [([]:HL)])) ?_;exact⟨([],none,0,[]),rfl,rfl,aar _ _,trivial,by unfold jn Ci;rw[if_neg (by omega),if_neg (by omega)];rfl⟩
  ·refine ae 34 [] λ _=>aao<|aap [] [] [0] (v:=.slice none 0 0) (H':=(ap [] [([]:HL)])) ?_;exact⟨([],none,0,[]),rfl,rfl,aar _ _,trivial,by unfold jn Ci;rw[if_neg (by omega),if_neg (by omega)];rfl⟩
end Go.Proofs.YtghjbimijeinfaaGreatDoor
namespace Go.Proofs
open IntKind
open Go.Shelf
open Go.RowKit Go.Lib in
def qB:Go.Shelf.Ren:=⟨λ|189=>47|125=>84|257=>83|128=>147|129=>148|294=>138|295=>139|296=>140|297=>141|298=>142|299=>143|216=>144|300=>145|301=>146|328=>194|329=>195|330=>196|331=>197|332=>198|215=>199|343=>248|n=>n,λ|28=>22|3=>3|46=>191|0=>0|51=>271|53=>77|4=>4|183=>265|182=>264|131=>175|5=>5|9=>9|218=>316|222=>319|228=>366|229=>367|n=>n,λ|n=>n⟩
theorem pD:Go.Proofs.Lays.n189 Tryz.prog qB:={
 mixed:=by kernel_rfl
 f125:=Tryz.func84.trans (congrArg some (by kernel_rfl))
 f128:=Tryz.func147.trans (congrArg some (by kernel_rfl))
 f129:=Tryz.func148.trans (congrArg some (by kernel_rfl))
 f189:=Tryz.func47.trans (congrArg some (by kernel_rfl))
 f215:=Tryz.func199.trans (congrArg some (by kernel_rfl))
 f216:=Tryz.func144.trans (congrArg some (by kernel_rfl))
 f257:=Tryz.func83.trans (congrArg some (by kernel_rfl))
 f294:=Tryz.func138.trans (congrArg some (by kernel_rfl))
 f295:=Tryz.func139.trans (congrArg some (by kernel_rfl))
 f296:=Tryz.func140.trans (congrArg some (by kernel_rfl))
 f297:=Tryz.func141.trans (congrArg some (by kernel_rfl))
 f298:=Tryz.func142.trans (congrArg some (by kernel_rfl))
 f299:=Tryz.func143.trans (congrArg some (by kernel_rfl))
 f300:=Tryz.func145.trans (congrArg some (by kernel_rfl))
 f301:=Tryz.func146.trans (congrArg some (by kernel_rfl))
 f328:=Tryz.func194.trans (congrArg some (by kernel_rfl))
 f329:=Tryz.func195.trans (congrArg some (by kernel_rfl))
 f330:=Tryz.func196.trans (congrArg some (by kernel_rfl))
 f331:=Tryz.func197.trans (congrArg some (by kernel_rfl))
 f332:=Tryz.func198.trans (congrArg some (by kernel_rfl))
 f343:=Tryz.func248.trans (congrArg some (by kernel_rfl))
 t0:=Tryz.underlying0
 a0:=Tryz.isAgg0
 z0:=Tryz.sizeOf0
 v0:=Tryz.zeroValue0
 t3:=Tryz.underlying3
 a3:=Tryz.isAgg3
 z3:=Tryz.sizeOf3
 v3:=Tryz.zeroValue3
 t4:=Tryz.underlying4
 a4:=Tryz.isAgg4
 z4:=Tryz.sizeOf4
 v4:=Tryz.zeroValue4
 t5:=Tryz.underlying5
 a5:=Tryz.isAgg5
 z5:=Tryz.sizeOf5
 v5:=Tryz.zeroValue5
 t9:=Tryz.underlying9
 a9:=Tryz.isAgg9
 z9:=Tryz.sizeOf9
 v9:=Tryz.zeroValue9
 t28:=Tryz.underlying22
 a28:=Tryz.isAgg22
 z28:=Tryz.sizeOf22
 v28:=Tryz.zeroValue22
 t46:=Tryz.underlying191
 a46:=Tryz.isAgg191
 z46:=Tryz.sizeOf191
 v46:=Tryz.zeroValue191
 t51:=Tryz.underlying271
 a51:=Tryz.isAgg271
 z51:=Tryz.sizeOf271
 v51:=Tryz.zeroValue271
 t53:=Tryz.underlying77
 a53:=Tryz.isAgg77
 z53:=Tryz.sizeOf77
 v53:=Tryz.zeroValue77
 t131:=Tryz.underlying175
 a131:=Tryz.isAgg175
 z131:=Tryz.sizeOf175
 v131:=Tryz.zeroValue175
 t182:=Tryz.underlying264
 a182:=Tryz.isAgg264
 z182:=Tryz.sizeOf264
 v182:=Tryz.zeroValue264
 t183:=Tryz.underlying265
 a183:=Tryz.isAgg265
 z183:=Tryz.sizeOf265
 v183:=Tryz.zeroValue265
 t218:=Tryz.underlying316
 a218:=Tryz.isAgg316
 z218:=Tryz.sizeOf316
 v218:=Tryz.zeroValue316
 t222:=Tryz.underlying319
 a222:=Tryz.isAgg319
 z222:=Tryz.sizeOf319
 v222:=Tryz.zeroValue319
 t228:=Tryz.underlying366
 a228:=Tryz.isAgg366
 z228:=Tryz.sizeOf366
 v228:=Tryz.zeroValue366
 t229:=Tryz.underlying367
 a229:=Tryz.isAgg367
 z229:=Tryz.sizeOf367
 v229:=Tryz.zeroValue367 }
open Go.Sort Go.RowKit in
theorem Tryz.slices_Sort_int(blk off cap:Nat)(zs:List Int)(w:World)(hH:Holds (Value.int .i64) w blk off zs.toArray)(S7:blk<w.heap.size)(C_:zs.length<4611686018427387904) :
 Calls Tryz.prog 47 #[.slice (some ⟨blk,off,none⟩) zs.length cap] w λ e w' =>
  e=.returned (.tuple #[]) /\ ∃n os,w'=grow (putRow (Value.int .i64) (Sort.ahead w n) blk off (zs.mergeSort λ x y=>decide (x <= y)).toArray) os:=Any.slices_Sort_int pD blk off cap zs w hH S7 C_
def ox:Go.Shelf.Ren:=⟨λ|20=>48|n=>n,λ|22=>22|3=>3|4=>4|0=>0|n=>n,λ|n=>n⟩
theorem ml:Go.Proofs.Lays2.n20 Tryz.prog ox:={
 mixed:=by kernel_rfl
 f20:=Tryz.func48.trans (congrArg some (by kernel_rfl))
 t0:=Tryz.underlying0
 a0:=Tryz.isAgg0
 z0:=Tryz.sizeOf0
 v0:=Tryz.zeroValue0
 t3:=Tryz.underlying3
 a3:=Tryz.isAgg3
 z3:=Tryz.sizeOf3
 v3:=Tryz.zeroValue3
 t4:=Tryz.underlying4
 a4:=Tryz.isAgg4
 z4:=Tryz.sizeOf4
 v4:=Tryz.zeroValue4
 t22:=Tryz.underlying22
 a22:=Tryz.isAgg22
 z22:=Tryz.sizeOf22
 v22:=Tryz.zeroValue22
 i3:=by kernel_rfl }
open Go.RowKit Go.Lib Go.Sort in
theorem Tryz.slices_Compact_int(blk off cap:Nat)(zs:List Int)(w:World)(hH:Holds (Value.int .i64) w blk off zs.toArray)(C_:zs.length <= 9223372036854775807)(hcap:zs.length <= cap) :
 Calls Tryz.prog 48 #[.slice (some ⟨blk,off,none⟩) zs.length cap] w λ e w'=>e=.returned (.slice (some ⟨blk,off,none⟩) (Lib.compact zs).length cap) /\ ∃q,w'=putRow (Value.int .i64) (Sort.ahead w q) blk off (Lib.compact zs++List.replicate (zs.length-(Lib.compact zs).length) 0).toArray:=Any.slices_Compact_int ml blk off cap zs w hH C_ hcap
open Go.RowKit Go.Lib Go.Sort in
theorem Tryz.slices_Compact_int_empty(a:Option Addr)(cap:Nat)(w:World) :
 Calls Tryz.prog 48 #[.slice a 0 cap] w λ e w'=>e=.returned (.slice a 0 cap) /\ w'=w:=Any.slices_Compact_int_empty ml a cap w
open Go.RowKit Go.Sort in
theorem Tryz.slices_Sort_int_none(p:Option Addr)(cap:Nat)(w:World) :
 Calls Tryz.prog 47 #[.slice p 0 cap] w λ e w'=>e=.returned (.tuple #[]) /\ w'=w:=Any.slices_Sort_int_none pD p cap w
end Go.Proofs
namespace Go.Proofs.YtghjbimijeinfaaGreatDoor
open IntKind
open Go.RowKit
theorem F7(l:List Int):aw dE l=l.map vI:=by
 induction l with
 | nil=>rfl
 | cons x l ih =>
  show ((List.range 1).map (dE.cell x))++aw dE l=_;rw[ih];rfl
theorem xr(l:List Int)(c:Nat)(h:l.length=c)(T:TypeId):(Blk.rows 1 c (bu dE l) T (0,0)).den=.cells ⟨l.map vI⟩ T (0,0):=by
 subst h;show Obj.cells ⟨bC 1 (bu dE l) l.length⟩ T (0,0)=_;have:=j5 (e:=dE) l;rw[F7] at this;rw[show bC 1 (bu dE l) l.length=bC dE.w (bu dE l) l.length from rfl,this]
theorem J1{H:HL}{w:World}(h:Rel H w)(os:Array Obj):Rel H (Go.Sort.grow w os):=⟨λ x hx=>by
 have h1:=h.holds x hx;show (w.heap++os)[x.1]?=_;rw[Array.getElem?_append_left (bL h1)];exact h1,h.nodup⟩
theorem xt(l:List Value)(k:Nat):(⟨l⟩:Array Value)[k]?=l[k]?:=by simp
theorem F8(l l2 rest:List Int)(hl:l2.length=l.length):Go.Sort.putCells (Value.int .i64) 0 l2.toArray ⟨(l++rest).map vI⟩=⟨(l2++rest).map vI⟩:=by
 apply Array.ext_getElem?;intro k;unfold Go.Sort.putCells;rw[Array.getElem?_mapIdx];rw[xt,xt,abv,abv]
 by_cases hk:k<l.length
 ·rw[aa4 hk,aa4 (by omega),aa3 hk,aa3 (by omega)];have h2:0 <= k /\ k<0+l2.toArray.size:=⟨aaU _,by simp;omega⟩;simp only[Option.map_some,if_pos h2,Nat.sub_zero];rw[getElem!_pos l2.toArray k (by simp;omega)];simp
 ·rw[aa6 (by omega),aa6 (by omega),hl];cases rest[k-l.length]? with
  | none=>rfl
  | some y =>
   have h2:¬ (0 <= k /\ k<0+l2.toArray.size):=by simp;omega
   simp only[Option.map_some,if_neg h2]
theorem DS{b c:Nat}{l l2 rest:List Int}{T:TypeId}{F:HL}{w w':World}(hl:l2.length=l.length)(hc:l.length+rest.length=c)(hR:Rel ([(b,.rows 1 c (bu dE (l++rest)) T (0,0))]++F) w)
  (hw:w'.heap=(Go.Sort.putRow (Value.int .i64) w b 0 l2.toArray).heap):Rel ([(b,.rows 1 c (bu dE (l2++rest)) T (0,0))]++F) w':=by
 have h0:=hR.holds _ (aav _ (List.mem_singleton.2 rfl));simp only at h0;rw[xr _ _ (by rw[aaV];exact hc)] at h0;refine hR.upd (p:=0) (b:=b) (bl':=.rows 1 c (bu dE (l2++rest)) T (0,0)) rfl ?_ ?_
 ·rw[hw,xr _ _ (by rw[aaV,hl];exact hc)];show (w.heap.modify b _)[b]?=_;rw[Array.getElem?_modify,if_pos rfl,h0];show some (Obj.cells (Go.Sort.putCells (Value.int .i64) 0 l2.toArray ⟨(l++rest).map vI⟩) T (0,0))=_;rw[F8 l l2 rest hl]
 ·intro k hk;rw[hw];show (w.heap.modify b _)[k]?=_;rw[Array.getElem?_modify,if_neg (λ e=>hk e.symm)]
theorem wc{b c:Nat}{l rest:List Int}{T:TypeId}{F:HL}{w:World}(hc:l.length+rest.length=c)(hR:Rel ([(b,.rows 1 c (bu dE (l++rest)) T (0,0))]++F) w):Go.Sort.Holds (Value.int .i64) w b 0 l.toArray:=by
 have h0:=hR.holds _ (aav _ (List.mem_singleton.2 rfl));simp only at h0;rw[xr _ _ (by rw[aaV];exact hc)] at h0;intro j hj;have Xc:j<l.length:=by simpa using hj
 refine⟨?_,?_⟩
 ·unfold World.cell?;simp only[h0,Nat.zero_add];rw[if_neg (by simp),xt,abv,aa4 Xc,aa3 Xc,getElem!_pos l.toArray j hj];simp
 ·unfold World.frozen?;simp only[h0];simp
theorem NW{b c:Nat}{l rest:List Int}{T:TypeId}(hc:l.length+rest.length=c):SlIs dE T l (some ⟨b,0,none⟩) c [(b,.rows 1 c (bu dE (l++rest)) T (0,0))] :=
 .inr ⟨b,0,l++rest,by simp,by rw[Nat.zero_add];rfl,by rw[Nat.zero_add,aaV];exact hc,by omega,by simp⟩
abbrev DT(l:List Int):List Int:=l.mergeSort λ x y=>decide (x <= y)
theorem r7(l:List Int):(DT l).length=l.length:=List.length_mergeSort _
theorem DU{l:List Int}{x:Int}:x∈DT l↔x∈l:=List.mem_mergeSort
theorem J2(l:List Int)(A:Option Addr)(c:Nat)(T F:HL)(hs:SlIs dE 3 l A c T)(hz:bx A)(hb:l.length <= 100000000):Sp Tryz.prog 47 #[.slice A l.length c] (ap [] [T]) F (λ u H'=>∃x:HL,H'=ap [] [x] /\ (u=.tuple #[] /\ SlIs dE 3 (DT l) A c x)):=by
 intro w hR
 by_cases hl:l=[]
 ·subst hl;refine(Tryz.slices_Sort_int_none A c w).mono ?_;rintro e w' ⟨rfl,rfl⟩;exact⟨_,_,rfl,⟨T,rfl,rfl,by simpa [DT] using hs⟩,hR,Below.refl _ _⟩
 ·obtain⟨b,rest,rfl,rfl,hc⟩:=hs.openL hz (by decide) (List.length_pos_iff.2 hl);rw[aaV] at hc;have TT:Rel ([(b,.rows 1 c (bu dE (l++rest)) 3 (0,0))]++F) w:=by rwa [ap,List.flatten_singleton,List.nil_append] at hR
  have g_:=TT.lt (aav _ (List.mem_singleton.2 rfl));refine(Tryz.slices_Sort_int b 0 c l w (wc hc TT) g_ (by omega)).mono ?_;rintro e w' ⟨rfl,n,os,rfl⟩;refine⟨_,_,rfl,⟨_,rfl,rfl,NW (l:=DT l) (rest:=rest) (by rw[r7];exact hc)⟩,?_,?_⟩
  ·have h2:=J1 (DS (w':=Go.Sort.putRow (Value.int .i64) (Go.Sort.ahead w n) b 0 (DT l).toArray) (r7 l) hc TT rfl) os;show Rel (([]++[_].flatten)++F) _;rw[List.flatten_singleton,List.nil_append];exact h2
  ·exact⟨rfl,rfl,rfl,by show w.heap.size <= ((w.heap.modify _ _)++os).size;simp,λ k hk=>absurd hk (Nat.not_lt_zero _)⟩
theorem MH(l:List Int)(A:Option Addr)(c:Nat)(T F:HL)(hs:SlIs dE 3 l A c T)(hz:bx A)(hb:l.length <= 100000000):Sp Tryz.prog 48 #[.slice A l.length c] (ap [] [T]) F (λ u H'=>∃x:HL,H'=ap [] [x] /\ (u=.slice A (Lib.compact l).length c /\ SlIs dE 3 (Lib.compact l) A c x)):=by
 intro w hR
 by_cases hl:l=[]
 ·subst hl;refine(Tryz.slices_Compact_int_empty A c w).mono ?_;rintro e w' ⟨rfl,rfl⟩;exact⟨_,_,rfl,⟨T,rfl,rfl,hs⟩,hR,Below.refl _ _⟩
 ·obtain⟨b,rest,rfl,rfl,hc⟩:=hs.openL hz (by decide) (List.length_pos_iff.2 hl);rw[aaV] at hc;have TT:Rel ([(b,.rows 1 c (bu dE (l++rest)) 3 (0,0))]++F) w:=by rwa [ap,List.flatten_singleton,List.nil_append] at hR
  have hle:=Lib.compact_length_le l;refine(Tryz.slices_Compact_int b 0 c l w (wc hc TT) (by omega) (by omega)).mono ?_;rintro e w' ⟨rfl,q,rfl⟩;have Of:(Lib.compact l++List.replicate (l.length-(Lib.compact l).length) 0).length=l.length:=by rw[aaV,List.length_replicate];omega
  refine⟨_,_,rfl,⟨_,rfl,rfl,NW (l:=Lib.compact l) (rest:=List.replicate (l.length-(Lib.compact l).length) 0++rest) (by rw[aaV,List.length_replicate];omega)⟩,?_,?_⟩
  ·have h2:=DS (w':=Go.Sort.putRow (Value.int .i64) (Go.Sort.ahead w q) b 0 (Lib.compact l++List.replicate (l.length-(Lib.compact l).length) 0).toArray) Of hc TT rfl;rw[aaF] at h2;show Rel (([]++[_].flatten)++F) _;rw[List.flatten_singleton,List.nil_append];exact h2
  ·exact⟨rfl,rfl,rfl,by show w.heap.size <= (w.heap.modify _ _).size;simp,λ k hk=>absurd hk (Nat.not_lt_zero _)⟩
theorem DV{l:List Int}{x:Int}:x∈Lib.compact l↔x∈l:=by
 unfold Lib.compact Lib.compactUpTo;rw[List.mem_map];constructor
 ·rintro⟨j,hj,rfl⟩;have h1:=List.mem_range.1 (List.mem_filter.1 hj).1;rw[getElem!_pos l.toArray j (by simpa using h1)];simp
 ·intro h;obtain⟨j,hj,rfl⟩:=List.getElem_of_mem h;have key:∀n j:Nat,j<n -> (hj:j<l.length) -> ∃a∈(List.range l.length).filter (Lib.keeps l.toArray),l.toArray[a]! = l[j]:=by
   intro n
   induction n with
   | zero=>intro j h;omega
   | succ n ih =>
    intro j hn hj
    by_cases h0:l.toArray[j]! ≠ l.toArray[j-1]! \/ j=0
    ·refine⟨j,List.mem_filter.2 ⟨List.mem_range.2 hj,?_⟩,?_⟩
     ·unfold Lib.keeps;simp only[decide_eq_true_eq];exact h0.elim .inr .inl
     ·rw[getElem!_pos l.toArray j (by simpa using hj)];simp
    ·have h1:l.toArray[j]! = l.toArray[j-1]!:=by
      by_cases e:l.toArray[j]! = l.toArray[j-1]!
      ·exact e
      ·exact absurd (.inl e) h0
     have h2:j≠0:=λ e=>h0 (.inr e);obtain⟨a,ha,hb⟩:=ih (j-1) (by omega) (by omega);refine⟨a,ha,?_⟩;rw[getElem!_pos l.toArray j (by simpa using hj),getElem!_pos l.toArray (j-1) (by simp;omega)] at h1;rw[hb];simpa using h1.symm
  exact key (j+1) j (Nat.lt_succ_self _) hj
end Go.Proofs.YtghjbimijeinfaaGreatDoor
