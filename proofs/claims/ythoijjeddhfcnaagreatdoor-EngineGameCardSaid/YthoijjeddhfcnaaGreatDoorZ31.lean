import Derived.Test.YthoijjeddhfcnaaGreatDoorZ30
import Derived.Test.YthoijjeddhfcnaaGreatDoorZ16
import Derived.Test.YthoijjeddhfcnaaGreatDoorZ18
import Derived.Test.YthoijjeddhfcnaaGreatDoorZ29
import Derived.Test.YthoijjeddhfcnaaGreatDoorZ14
set_option maxHeartbeats 4000000
set_option maxRecDepth 100000
set_option linter.unusedSimpArgs false
set_option linter.unusedVariables false
namespace Go.Proofs.YthoijjeddhfcnaaGreatDoor
open Go.RowKit Go.Shelf
section
variable {α:Type} {e:Enc α} {P:Program} {T:TypeId} {inf:TypeInfo} {z:Value} {l:List α} {A:Option Addr} {cap:Nat} {Hl F:HL}
theorem SlIs.toRowL(h:SlIs e T l A cap Hl)(hF:∀x∈Hl,x∈F):RowL e T F A l.length l:=by
 rcases h with ⟨rfl,rfl,rfl,rfl⟩|⟨b,o,full,rfl,rfl,h1,h2,h3⟩
 ·exact .zero _
 ·refine .rows b o (o+cap) full (0,0) _ l (hF _ (List.mem_singleton.2 rfl)) (by omega) rfl (λ k hk=>?_)
  have h4:((full.drop o).take l.length)[k]?=l[k]?:=by rw[h3]
  rw[List.getElem?_take,if_pos hk,List.getElem?_drop] at h4
  rw[List.getD_eq_getElem?_getD,List.getD_eq_getElem?_getD,h4]
end
section
variable {r:Option Nat} {P:Program} {N:Nat} {D:List Deferred} {F:HL} {w0:World} {R:HL} {s:Cfg} {Q:Exit -> Act -> World -> Prop} {hards:List Nat} {Rd:HL}
theorem Ay(t:Nat){u v:Value}(e:u=v)(hk:RD r P N D F w0 R hards Rd (svC t v s) Q)(h:s.L.lookup t=some u:=by kernel_rfl):RD r P N D F w0 R hards Rd s Q:=by
 subst e
 exact⟨λ hR hs By a hF=>hk.h hR hs By a (hF.fix h)⟩
variable {α:Type} {e:Enc α} {T:TypeId} {inf:TypeInfo} {z:Value}
end
structure Rw where (A:Option Addr) (n c:Nat)
inductive RwIn(F:HL)(xs:List Inp):Rw -> Prop
 | mk (b o N:Nat) (full:List Inp) (c:Nat) (hI:(b,.rows 3 N (mO full) 93 (0,0))∈F) (hir:o+xs.length <= N) (hx:∀k,k<xs.length -> full.getD (o+k) dI=xs.getD k dI) (hcap:xs.length <= c):RwIn F xs ⟨some ⟨b,o*3,none⟩,xs.length,c⟩
theorem SlIs.rw{xs:List Inp}{A:Option Addr}{c:Nat}{T F:HL}(h:SlIs mN 93 xs A c T)(hF:∀x∈T,x∈F)(h1:1 <= xs.length){n:Nat}(hn:n=xs.length):RwIn F xs ⟨A,n,c⟩:=by
 subst hn
 rcases h with ⟨_,_,rfl,_⟩|⟨b,o,full,rfl,rfl,h2,h3,h4⟩
 ·simp at h1
 ·refine .mk b o (o+c) full c (hF _ (List.mem_singleton.2 rfl)) (by omega) (λ k hk=>?_) h3
  have h5:((full.drop o).take xs.length)[k]?=xs[k]?:=by rw[h4]
  rw[List.getElem?_take,if_pos hk,List.getElem?_drop] at h5
  rw[List.getD_eq_getElem?_getD,List.getD_eq_getElem?_getD,h5]
theorem CD(A B:Option Addr)(n ca cb:Nat)(es:List Eff)(F:HL)(ha:RowL jm 106 F A n es)(hb:RowL jm 106 F B n es)(hn:n <= 1000000):Sp Tryz.prog 15 #[.slice A n ca,.slice B n cb] [] F (λ u H'=>u=.bool true /\ H'=[]):=by
 refine Sp.run Tryz.func15 rfl mn (A:=[]) (Ts:=[]) rfl λ w0=>?_
 refine aa 15 [] λ _=>dR 10 (nt (decide_eq_true (rfl:(n:Int)=(n:Int))))<|aa 10 [] λ _=>RN.loop (σ:=Nat) (λ k_=>⟨[(0,.slice A n ca),(1,.slice B n cb),(5,vI (k_:Int))],[],[],k_ <= n,n-k_⟩) 0 [] [] (Nat.zero_le _) ?_
 rintro k_ hI1 QF
 refine aa 9 [] λ _=>RN.em ((k_:Int)<(n:Int)) 14 (λ h3=>?_) λ h3=>?_
 ·refine aa 6 [] λ _=>RN.draw [] []<|af [] [0,1,4,5] [] ?_
  obtain⟨qx4,Q_,Y8,fx4,fzx4,hAx4,Xi,hox4,hgx4⟩:=ha.at (k:=k_) (by omega)
  refine Ay 17 (congrArg (λ v_=>(.slice v_ n ca:Value)) hAx4)<|RD.ro (λ _=>(mc Xi mn)) ?_
  obtain⟨qx5,PE,Vb,fx5,fzx5,Ut,Vz,Z0,VM⟩:=hb.at (k:=k_) (by omega)
  refine Ay 21 (congrArg (λ v_=>(.slice v_ n cb:Value)) Ut)<|RD.ro (λ _=>(mc Xi (mc Vz mn)))<|aL [] [2,6,3,7] [.ix k_,.ix k_,.rorow 0 (Q_+k_) 0,.rorow 0 (Q_+k_) 1,.rorow 0 (Q_+k_) 2,.rorow 0 (Q_+k_) 3,.rorow 1 (PE+k_) 0,.rorow 1 (PE+k_) 1,.rorow 1 (PE+k_) 2,.rorow 1 (PE+k_) 3] [((PE*4+k_*4)+3)=(PE+k_)*4+3 /\ (PE+k_)<Vb,((PE*4+k_*4)+2)=(PE+k_)*4+2 /\ (PE+k_)<Vb,((PE*4+k_*4)+1)=(PE+k_)*4+1 /\ (PE+k_)<Vb,(PE*4+k_*4)=(PE+k_)*4+0 /\ (PE+k_)<Vb,((Q_*4+k_*4)+3)=(Q_+k_)*4+3 /\ (Q_+k_)<Y8,((Q_*4+k_*4)+2)=(Q_+k_)*4+2 /\ (Q_+k_)<Y8,((Q_*4+k_*4)+1)=(Q_+k_)*4+1 /\ (Q_+k_)<Y8,(Q_*4+k_*4)=(Q_+k_)*4+0 /\ (Q_+k_)<Y8,(k_:Int)=((k_:Nat):Int) /\ k_<n,(k_:Int)=((k_:Nat):Int) /\ k_<n]<|Ay 20 (congrArg (λ v_=>(.agg #[vI v_.t,vI v_.i,vI v_.k,vI v_.v]:Value)) hgx4)<|Ay 24 (congrArg (λ v_=>(.agg #[vI v_.t,vI v_.i,vI v_.k,vI v_.v]:Value)) VM) ?_
  have hee_:(decide ((es.getD k_ jm.dflt).t=(es.getD k_ jm.dflt).t) && (decide ((es.getD k_ jm.dflt).i=(es.getD k_ jm.dflt).i) && (decide ((es.getD k_ jm.dflt).k=(es.getD k_ jm.dflt).k) && (decide ((es.getD k_ jm.dflt).v=(es.getD k_ jm.dflt).v) && true))))=true:=by simp
  refine af [] [8] [.sq]<|RD.fin<|aa 1 [] λ _=>dR 25 (nt hee_)<|aq 9 [.nw] [bF ((k_:Int)+1)] λ _=>?_
  refine QF (k_+1) [] [] ?_
  try dsimp only
  exact⟨by omega,by omega⟩
 ·refine aa 11 [] λ _=>?_
  exact RN.ret [] [] [] ⟨rfl,rfl⟩
theorem Gi(g:Gm):∀ (f:Nat) (M:MemS),qR g f M <= f
 | 0,_=>Nat.le_refl _
 | f+1,M=>by
  rw[qR]
  split
  ·omega
  ·have:=Gi g f (dp g M);omega
theorem Jg(g:Gm)(M:MemS):(ov g M).length <= 1001:=by
 have h1:=rM g (qR g 1000 M+1) M
 have h2:=Gi g 1000 M
 unfold ov
 omega
abbrev Hv(S:Setup)(j:Nat × Int)(xs:List Inp):Gm:=db S j xs.length xs
structure TkOk(S:Setup)(j:Nat × Int)(xs:List Inp)(M:MemS):Prop where
 ex:∃m,m <= 999 /\ eL (Hv S j xs) (m+1) M
 now:0 <= M.get 0
 ok:cV S.players xs.length xs (M.get 0)=0
theorem Gj{g:Gm}{M:MemS}{m:Nat}(hm:m <= 999)(h:eL g (m+1) M):dD g (m+1) M=oC g M /\ cK g (m+1) M=ov g M:=by
 rw[oC,ov,EC m 1000 M h (by omega)]
 exact⟨rfl,rfl⟩
theorem LW{M N:MemS}(h:M.cs=N.cs)(i:Int):M.get i=N.get i:=by unfold MemS.get;rw[h]
theorem Gk{n:Int}(h:pA n):0 <= pz n /\ pz n<1000:=fl h 1000 (by decide)
theorem tX{n m:Int}(h0:0 <= n)(h1:n<m):aP n m=n:=by
 unfold aP
 rw[if_neg (by omega)]
 exact Int.tmod_eq_of_lt h0 h1
theorem yN{n:Int}(h:pA n):c6 (pz n)=c6 n:=by
 have hb:=Gk h
 have e:pz (pz n)=pz n:=tX hb.1 hb.2
 unfold c6 nB
 rw[e]
theorem CE:∀k:Fin 1000,i7 ⟨(c6 ((k.1:Nat):Int)).1,(c6 ((k.1:Nat):Int)).2,none,0⟩:=by decide +kernel
theorem Gl{n:Int}(h:pA n)(A:Option Addr)(c:Nat):i7 ⟨(c6 n).1,(c6 n).2,A,c⟩:=by
 have hb:=Gk h
 have:=CE ⟨(pz n).toNat,by omega⟩
 simp only at this
 rw[Int.toNat_of_nonneg hb.1,yN h] at this
 exact this
theorem LX(i:Nat):0 <= ([1024,1024,512,2048,0]:List Int).getD i 0 /\ ([1024,1024,512,2048,0]:List Int).getD i 0 <= 4096:=by
 rcases i with _|_|_|_|_|i
 all_goals first|decide|simp
section
variable {xs:List Int} {F:HL} {A:Option Addr} {n:Nat} {S:Setup} {T:HL}
theorem Jh(hl:ArgL F A n xs)(k:Nat)(B:Option Addr)(c:Nat):fd (rU xs k B c) ⟨-12000,-9000,12000,9000⟩:=by
 have h1:=gn hl (4+2*k)
 have h2:=gn hl (5+2*k)
 have h3:=LX ((bM xs k / 5000) % 5).toNat
 simp only[fd,rU,ll,mX,and_true]
 rw[show kv xs (4+2*k)=bN xs k from rfl] at h1
 rw[show kv xs (5+2*k)=bM xs k from rfl] at h2
 refine⟨h3,⟨⟨?_,?_⟩,?_,?_⟩,⟨?_,?_⟩,⟨?_,?_⟩,⟨?_,?_⟩,?_,?_⟩ <;> omega
theorem Gn(i:Nat):(jn i:Int) <= 16 /\ ∀k,k<jn i -> pN 3 ((jQ i).getD k me.dflt):=by
 rcases i with _|_|i
 ·exact⟨by decide,λ k hk=>absurd hk (Nat.not_lt_zero _)⟩
 ·exact⟨by decide,by decide⟩
 ·exact⟨by show ((2:Nat):Int) <= 16;decide,by show ∀k,k<2 -> pN 3 (([⟨0,2⟩,⟨1,2⟩]:List Dr).getD k me.dflt);decide⟩
theorem CF(hl:ArgL F A n xs)(h:SetG xs S T):kK S pB (jQ (kv xs 3 % 3).toNat)=0:=by
 have h1:=oV hl
 have h2:=tz hl
 have hn:=h.nb
 have k0:=gn hl 0
 have k1:=gn hl 1
 have k2:=gn hl 2
 obtain⟨e1,e2,e3,e4,e5,e6,e7,e8⟩:=h.nums
 obtain⟨⟨m1,m2⟩,-⟩:=h.maps
 have hd:=Gn (kv xs 3 % 3).toNat
 unfold kK
 rw[if_pos,if_pos,if_pos]
 ·intro k hk
  obtain⟨B,c,hb⟩:=h.bod k hk
  rw[hb,e1]
  exact Jh hl k B c
 ·refine⟨?_,?_,⟨?_,?_⟩,?_,?_⟩
  ·have DO:=h.pl
   simp only[jo,ll,mX,and_true,e2,e3,e4,e5,e6,e7,e8,DO]
   refine⟨⟨?_,?_⟩,⟨?_,?_⟩,⟨?_,?_⟩,⟨⟨?_,?_⟩,?_,?_⟩,⟨?_,?_⟩,⟨⟨?_,?_⟩,?_,?_⟩,⟨?_,?_⟩,?_,?_⟩ <;> omega
  ·rw[e1];decide
  ·rw[m1];decide
  ·rw[m2];exact hd.1
  ·rw[m1];decide
  ·rw[m1,m2];exact hd.2
 ·intro k hk
  obtain⟨B,c,hb⟩:=h.bod k hk
  rw[hb]
  have:=gn hl (4+2*k)
  exact Gl ⟨by show _ <= kv xs (4+2*k);omega,by show kv xs (4+2*k) <= _;omega⟩ B c
end
theorem Sp.den{P:Program}{f:FuncId}{args:Array Value}{H F F':HL}{R:Value -> HL -> Prop}(h:Sp P f args H F R)(e:gW F=gW F'):Sp P f args H F' R:=by
 have e2:∀X:HL,gW (X++F)=gW (X++F'):=λ X=>by simp only[gW,List.map_append] at e ⊢;rw[e]
 intro w hR
 refine(h w (hR.den (e2 H).symm)).mono ?_
 rintro e' w' ⟨v,H',h1,h2,h3,h4⟩
 exact⟨v,H',h1,h2,h3.den (e2 H'),h4⟩
def ArgD(F:HL)(A:Option Addr)(n:Nat)(xs:List Int):Prop:=∃F',gW F'=gW F /\ ArgL F' A n xs
theorem ArgL.d{F F':HL}{A:Option Addr}{n:Nat}{xs:List Int}(h:ArgL F A n xs)(e:gW F=gW F'):ArgD F' A n xs:=⟨F,e,h⟩
theorem ArgD.up{F X:HL}{A:Option Addr}{n:Nat}{xs:List Int}(h:ArgD F A n xs):ArgD (X++F) A n xs:=by
 obtain⟨F',e,h⟩:=h
 exact⟨X++F',by simp only[gW,List.map_append] at e ⊢;rw[e],h.up⟩
theorem ArgD.ex{F:HL}{A:Option Addr}{n:Nat}{xs:List Int}(h:ArgD F A n xs):∃F',ArgL F' A n xs:=by
 obtain⟨F',e,h⟩:=h
 exact⟨F',h⟩
theorem ArgD.use{F:HL}{A:Option Addr}{n:Nat}{xs:List Int}(h:ArgD F A n xs){P:Program}{f:FuncId}{args:Array Value}{H:HL}{R:Value -> HL -> Prop}(k:∀F',ArgL F' A n xs -> Sp P f args H F' R):Sp P f args H F R:=by
 obtain⟨F',e,h⟩:=h
 exact(k F' h).den e

noncomputable section
end
structure GF(xs:List Int)(S:Setup):Prop where
 pl:1 <= S.players /\ S.players <= 3
 nb:1 <= S.nb /\ S.nb <= 5
 rn:S.rn=3
 dn:S.dn <= 2
 sz:48 <= sizeOf S /\ sizeOf S <= 100
 val:kK S pB (jQ (kv xs 3 % 3).toNat)=0
theorem Gp{F:HL}{A:Option Addr}{n:Nat}{xs:List Int}(hl:ArgD F A n xs){S:Setup}{T:HL}(h:SetG xs S T):GF xs S:=by
 obtain⟨F',hl⟩:=hl.ex
 have h1:=oV hl
 have h2:=tz hl
 have hn:=h.nb
 have hp:=h.pl
 obtain⟨⟨m1,m2⟩,-⟩:=h.maps
 have hd:jn (kv xs 3 % 3).toNat <= 2:=by
  generalize (kv xs 3 % 3).toNat=i
  rcases i with _|_|i
  ·exact Nat.zero_le _
  ·exact Nat.le_of_ble_eq_true rfl
  ·exact Nat.le_refl 2
 exact⟨by omega,by omega,m1,by omega,by unfold sizeOf;omega,CF hl h⟩
structure SetV(S:Setup):Prop where
 pl:1 <= S.players /\ S.players <= 3
 nb:1 <= S.nb /\ S.nb <= 5
 ro:1 <= S.rounds /\ S.rounds <= 3
 fu:0 <= S.fuel /\ S.fuel <= 60
theorem aA(M:MemS)(i v:Int):(M.set i v).cs.length=M.cs.length:=by
 unfold MemS.set;split <;> simp
theorem av{M:MemS}{i v j:Int}(h:j≠i):(M.set i v).get j=M.get j:=by
 unfold MemS.set
 split
 ·next hi =>
  unfold MemS.get
  simp only[List.length_set]
  split
  ·next hj =>
   rw[List.getD_eq_getElem?_getD,List.getD_eq_getElem?_getD,List.getElem?_set_ne (by omega)]
  ·rfl
 ·rfl
theorem bL{M:MemS}{i v:Int}(h:0 <= i /\ i<M.cs.length):(M.set i v).get i=v:=by
 unfold MemS.set
 rw[if_pos h]
 unfold MemS.get
 simp only[List.length_set]
 rw[if_pos h,List.getD_eq_getElem?_getD,List.getElem?_set_self (by omega)]
 rfl
theorem cj{M:MemS}{i v:Int}(h:48 <= M.cs.length)(h0:0 <= i)(h1:i<48)(j:Int):(M.set i v).get j=if j=i then v else M.get j:=by
 by_cases e:j=i
 ·rw[if_pos e,e,bL (by omega)]
 ·rw[if_neg e,av e]
theorem fP{S:Setup}(hp:0 <= S.players)(k:Int):ae S k=-1 \/ (0 <= k /\ k<S.nb /\ ae S k=48+4*S.players+8*k):=by
 unfold ae
 split
 ·exact .inl rfl
 ·split
  ·exact .inl rfl
  ·exact .inr ⟨by omega,by omega,rfl⟩
theorem lC{S:Setup}(k:Int):(ah S k=-1 /\ (k<0 \/ S.players <= k)) \/ (0 <= k /\ k<S.players /\ ah S k=48+4*k):=by
 unfold ah
 split
 ·exact .inl ⟨rfl,by omega⟩
 ·split
  ·exact .inl ⟨rfl,by omega⟩
  ·exact .inr ⟨by omega,by omega,rfl⟩
structure Hi(P:Int)(M M':MemS):Prop where
 len:M'.cs.length=M.cs.length
 get:∀j,j<48+4*P -> M'.get j=M.get j
theorem Hi.refl{P:Int}{M:MemS}:Hi P M M:=⟨rfl,λ _ _=>rfl⟩
theorem Hi.set{P:Int}{A M:MemS}(h:Hi P A M){k:Int}(hk:48+4*P <= k)(v:Int):Hi P A (M.set k v):=⟨(aA _ _ _).trans h.len,λ j hj=>(av (by omega)).trans (h.get j hj)⟩
theorem Hi.setB{S:Setup}(hp:0 <= S.players){A M:MemS}(h:Hi S.players A M){k c:Int}(hb:ae S k >= 0)(hc:0 <= c)(v:Int):Hi S.players A (M.set (ae S k+c) v):=by
 rcases fP hp k with e|⟨h0,h1,e⟩
 ·omega
 ·exact h.set (by omega) v
structure Kp(P:Int)(M M':MemS):Prop where
 len:M'.cs.length=M.cs.length
 get:∀j,j <= 5 \/ (48 <= j /\ j<48+4*P) -> M'.get j=M.get j
theorem Kp.refl{P:Int}{M:MemS}:Kp P M M:=⟨rfl,λ _ _=>rfl⟩
theorem Kp.set{P:Int}{A M:MemS}(h:Kp P A M){k:Int}(hk:5<k /\ (k<48 \/ 48+4*P <= k))(v:Int):Kp P A (M.set k v):=⟨(aA _ _ _).trans h.len,λ j hj=>(av (by omega)).trans (h.get j hj)⟩
theorem Kp.trans{P:Int}{A B C:MemS}(h:Kp P A B)(h':Kp P B C):Kp P A C:=⟨h'.len.trans h.len,λ j hj=>(h'.get j hj).trans (h.get j hj)⟩
structure Ef(M:MemS)(r:VR):Prop where
 yes:r.em=true -> r.e.t=M.get 0 /\ r.e.i=M.get 11 /\ M.get 11<40 /\ r.M.get 11=M.get 11+1
 no:r.em=false -> r.M.get 11=M.get 11
theorem LY{op:Int}(h:1 <= op /\ op <= 21):(0 <= eP op /\ eP op <= 2) /\ (0 <= eQ op /\ eQ op <= 1):=by
 obtain⟨n,rfl⟩:=Int.eq_ofNat_of_zero_le (show 0 <= op by omega)
 have hn:n<22:=by omega
 have key:∀n:Fin 22,(0 <= (mR.getD n.1 (0,0,0)).1 /\ (mR.getD n.1 (0,0,0)).1 <= 2) /\ (0 <= (mR.getD n.1 (0,0,0)).2.1 /\ (mR.getD n.1 (0,0,0)).2.1 <= 1):=by decide
 exact key ⟨n,hn⟩
theorem qr{op n sp:Int}(h:eY op n sp=true):(1 <= op /\ op <= 21) /\ sp <= 16 /\ eP op <= sp /\ ¬ aV (aV (sp-eP op)+eQ op)>16 /\ (eN op=0 \/ (0 <= n /\ n<eN op)):=by
 unfold eY at h
 split at h
 ·cases h
 split at h
 ·cases h
 split at h
 ·cases h
 split at h
 ·cases h
 split at h
 ·cases h
 refine⟨by omega,by omega,by omega,by assumption,?_⟩
 split at h
 ·left;assumption
 ·split at h
  ·right;exact⟨by omega,of_decide_eq_true h⟩
  ·cases h
theorem Ji{M:MemS}{P k v:Int}(hl:48 <= M.cs.length)(h0:0 <= M.get 11 /\ M.get 11 <= 40):Kp P M (cN k v M).M /\ (cN k v M).M.get 8=M.get 8 /\ Ef M (cN k v M):=by
 unfold cN
 split
 ·exact⟨.refl,rfl,⟨λ h=>by simp at h,λ _=>rfl⟩⟩
 ·refine⟨((Kp.refl).set (by omega) _).set (by omega) _,?_,⟨λ _=>⟨rfl,rfl,by omega,?_⟩,λ h=>by simp at h⟩⟩
  ·simp only
   rw[av (by decide),av (by decide)]
  ·simp only
   rw[bL (by rw[aA];omega),aK (by omega)]
def Gd(P:Int)(M:MemS)(r:VR):Prop:=Kp P M r.M /\ r.M.get 8=M.get 8 /\ Ef M r
theorem Gd.ite{P:Int}{M:MemS}{c:Prop}[Decidable c]{x y:VR}(hx:c -> Gd P M x)(hy:¬ c -> Gd P M y):Gd P M (if c then x else y):=by
 split
 ·exact hx (by assumption)
 ·exact hy (by assumption)
theorem Gd.base{P:Int}{M:MemS}{v:Int}:Gd P M ⟨M,v,bH,false⟩:=⟨.refl,rfl,⟨λ h=>by simp at h,λ _=>rfl⟩⟩
theorem Gd.st{P:Int}{M:MemS}{k v u:Int}(hk:(5<k /\ k≠8 /\ k≠11) /\ (k<48 \/ 48+4*P <= k)):Gd P M ⟨M.set k v,u,bH,false⟩ :=
 ⟨(Kp.refl).set (by omega) _,av (by omega),⟨λ h=>by simp at h,λ _=>av (by omega)⟩⟩
theorem Gd.mite{P:Int}{M X Y:MemS}{c:Prop}[Decidable c]{u:Int}(hx:c -> Gd P M ⟨X,u,bH,false⟩)(hy:¬ c -> Gd P M ⟨Y,u,bH,false⟩):Gd P M ⟨if c then X else Y,u,bH,false⟩:=by
 split
 ·exact hx (by assumption)
 ·exact hy (by assumption)
theorem Jj{S:Setup}(hS:SetV S){M:MemS}{op n a b:Int}(hl:48 <= M.cs.length)(h0:0 <= M.get 11 /\ M.get 11 <= 40)(hn:eN op=0 \/ (0 <= n /\ n<eN op)):Gd S.players M (aH S op n a b M):=by
 have DO:=hS.pl
 have RJ:=hS.nb
 unfold aH
 iterate 14 (refine Gd.ite (λ _=>.base) λ _=>?_)
 refine Gd.ite (λ e=>?_) λ _=>?_
 ·subst e
  have PZ:0 <= n /\ n<16:=by
   rcases hn with h|h
   ·exact absurd h (by decide)
   ·exact h
  rw[aK (by omega)]
  exact .st (by omega)
 refine Gd.ite (λ _=>.base) λ _=>?_
 refine Gd.ite (λ e=>?_) λ _=>?_
 ·subst e
  have h8:0 <= n /\ n<8:=by
   rcases hn with h|h
   ·exact absurd h (by decide)
   ·exact h
  refine Gd.mite (λ hb=>?_) λ _=>.base
  rcases fP (S:=S) (by omega) a with e|⟨b0,b1,e⟩
  ·omega
  ·rw[aK (by omega)]
   exact .st (by omega)
 refine Gd.ite (λ _=>.st (by omega)) λ _=>?_
 refine Gd.ite (λ _=>.mite (λ _=>.st (by omega)) λ _=>.base) λ _=>?_
 refine Gd.ite (λ _=>?_) λ _=>.base
 obtain⟨q1,q2,q3⟩:=Ji (P:=S.players) (k:=a) (v:=b) hl h0
 exact⟨q1,q2,⟨q3.yes,q3.no⟩⟩
theorem Jk{P:Int}{M:MemS}{op sp pc fuel:Int}(hl:48 <= M.cs.length):Kp P M (dw op sp pc fuel M) /\ (dw op sp pc fuel M).get 8=aV (fuel-1) /\ (dw op sp pc fuel M).get 11=M.get 11:=by
 unfold dw
 split
 ·exact⟨((Kp.refl).set (by omega) _).set (by omega) _,by rw[av (by decide),bL (by omega)],by rw[av (by decide),av (by decide)]⟩
 ·exact⟨(((Kp.refl).set (by omega) _).set (by omega) _).set (by omega) _,by rw[av (by decide),av (by decide),bL (by omega)],by rw[av (by decide),av (by decide),av (by decide)]⟩
theorem wH{S:Setup}(hS:SetV S){M:MemS}{code:List Ins}{n:Nat}(hl:48 <= M.cs.length)(h0:0 <= M.get 11 /\ M.get 11 <= 40)(hf:0 <= M.get 8 /\ M.get 8 <= 60) :
  Kp S.players M (ao S code n M).M /\ Ef M (ao S code n M) /\ ((c7 code n M /\ (ao S code n M).M.get 8=M.get 8-1 /\ 1 <= M.get 8) \/ (¬ c7 code n M /\ bE code n M=true /\ (ao S code n M).M.get 8=M.get 8)):=by
 unfold ao
 by_cases hr:c7 code n M
 ·rw[if_pos hr]
  obtain⟨r1,r2,r3,r4⟩:=hr
  obtain⟨x1,x2,x3,x4,x5⟩:=qr r4
  have hp:=Jk (P:=S.players) (op:=(aX code M).op) (sp:=M.get 7) (pc:=M.get 6) (fuel:=M.get 8) hl
  generalize hM1:dw (aX code M).op (M.get 7) (M.get 6) (M.get 8) M=M1 at *
  obtain⟨p1,p2,p3⟩:=hp
  rw[aK (by omega)] at p2
  have he:=Jj hS (M:=M1) (op:=(aX code M).op) (n:=(aX code M).n) (a:=dC (aX code M).op (M.get 7) M) (b:=dQ (aX code M).op (M.get 7) M) (by rw[p1.len];exact hl) (by rw[p3];exact h0) x5
  unfold bQ
  rw[hM1]
  generalize aH S (aX code M).op (aX code M).n (dC (aX code M).op (M.get 7) M) (dQ (aX code M).op (M.get 7) M) M1=r at *
  obtain⟨g1,g2,g3⟩:=he
  have hE:Ef M r:=⟨λ h=>by
   obtain⟨a1,a2,a3,a4⟩:=g3.yes h
   rw[p1.get 0 (by omega)] at a1
   rw[p3] at a2 a3 a4
   exact⟨a1,a2,a3,a4⟩,λ h=>by rw[g3.no h,p3]⟩
  have hb:=LY x1
  unfold cz
  split
  ·have hq:aV (aV (16+M.get 7)-eP (aX code M).op)=16+M.get 7-eP (aX code M).op:=by rw[aK (x:=16+M.get 7) (by omega),aK (by omega)]
   rw[aK (x:=M.get 7-eP (aX code M).op) (by omega),aK (by omega)] at x4
   rw[hq]
   refine⟨(p1.trans g1).set (by omega) _,⟨λ h=>?_,λ h=>?_⟩,.inl ⟨⟨r1,r2,r3,r4⟩,?_,by omega⟩⟩
   ·obtain⟨a1,a2,a3,a4⟩:=hE.yes h
    exact⟨a1,a2,a3,(av (by omega)).trans a4⟩
   ·exact(av (by omega)).trans (hE.no h)
   ·simp only
    rw[av (by omega),g2,p2]
  ·exact⟨p1.trans g1,hE,.inl ⟨⟨r1,r2,r3,r4⟩,by rw[g2,p2],by omega⟩⟩
 ·rw[if_neg hr]
  exact⟨.refl,⟨λ h=>by simp at h,λ _=>rfl⟩,.inr ⟨hr,by unfold bE;rw[if_neg hr],rfl⟩⟩
def l6(n i j fu:Int):Int:=(if j=0 then (n-i)*62 else (n-i-1)*62+fu+1)+1+n
def l5(n i j:Int):Int:=n*(n+1)-(i*(n+1)+j)+l6 n 0 0 0
def Kn(n i:Int):Int:=if i=0 then 0 else if i=1 then n-1 else if i=2 then 2*n-3 else 3*n-6
def LZ(n:Int):Int:=if n=2 then 1 else if n=3 then 3 else if n=4 then 6 else if n=5 then 10 else 0
def l4(n R i j r:Int):Int:=(if n<2 then 0 else (R-r)*LZ n-(Kn n i+(j-i-1)))+1+l5 n 0 0
def l3(n R i:Int):Int:=n-i+l4 n R 0 1 0
def l2(n R j fu:Int):Int:=(if j=0 then 62 else fu+1)+l3 n R 0
def l1(P n R i j fu:Int):Int:=(if j=0 then (P-i)*62 else (P-i-1)*62+fu+1)+1+l2 n R 0 0
def l0(P n R i:Int):Int:=P-i+l1 P n R 0 0 0
def xj(P n R p i j r fu:Int):Int:=if p=0 then l0 P n R i else if p=1 then l1 P n R i j fu else if p=2 then l2 n R j fu else if p=3 then l3 n R i else if p=4 then l4 n R i j r else if p=5 then l5 n i j else if p=6 then l6 n i j fu else n-i
def Mz(P n R p i j r fu:Int):Prop :=
 (p=0 /\ 0 <= i /\ i<P) \/ (p=1 /\ 0 <= i /\ i <= P /\ (j=0 \/ (j=1 /\ i<P /\ 0 <= fu /\ fu <= 60))) \/ (p=2 /\ (j=0 \/ (j=1 /\ 0 <= fu /\ fu <= 60))) \/ (p=3 /\ 0 <= i /\ i<n) \/
 (p=4 /\ 0 <= r /\ r <= R /\ (2 <= n -> 0 <= i /\ i<j /\ j<n /\ (r=R -> i=0 /\ j=1))) \/ (p=5 /\ 0 <= i /\ i<n /\ 0 <= j /\ j <= n) \/ (p=6 /\ 0 <= i /\ i <= n /\ (j=0 \/ (j=1 /\ i<n /\ 0 <= fu /\ fu <= 60))) \/ (p=7 /\ 0 <= i /\ i<n)
theorem Gq{n i j:Int}(hn:1 <= n /\ n <= 5)(hi:0 <= i /\ i<n)(hj:0 <= j /\ j <= n):0<l5 n i j:=by
 unfold l5 l6
 obtain h|h|h|h|h:n=1 \/ n=2 \/ n=3 \/ n=4 \/ n=5:=by omega
 all_goals subst h;simp;omega
theorem tY{P n R p i j r fu:Int}(hP:1 <= P /\ P <= 3)(hn:1 <= n /\ n <= 5)(hR:1 <= R /\ R <= 3)(h:Mz P n R p i j r fu):0<xj P n R p i j r fu:=by
 have h5:=Gq hn (i:=0) (j:=0) (by omega) (by omega)
 have h4:∀i j r,0 <= r -> r <= R -> (2 <= n -> 0 <= i /\ i<j /\ j<n) -> -9 <= (if n<2 then 0 else (R-r)*LZ n-(Kn n i+(j-i-1))) -> 0<l4 n R i j r+9:=λ i j r _ _ _ h=>by unfold l4;omega
 have k4:0<l4 n R 0 1 0:=by
  unfold l4 LZ Kn
  obtain h|h|h|h|h:n=1 \/ n=2 \/ n=3 \/ n=4 \/ n=5:=by omega
  all_goals subst h;simp;omega
 have k3:0<l3 n R 0:=by unfold l3;omega
 have k2:∀j fu,(j=0 \/ (j=1 /\ 0 <= fu /\ fu <= 60)) -> 0<l2 n R j fu:=λ j fu h=>by unfold l2;split <;> omega
 have k20:=k2 0 0 (.inl rfl)
 have k1:∀i j fu,0 <= i -> i <= P -> (j=0 \/ (j=1 /\ i<P /\ 0 <= fu /\ fu <= 60)) -> 0<l1 P n R i j fu:=λ i j fu _ _ h=>by unfold l1;split <;> omega
 have k10:=k1 0 0 0 (by omega) (by omega) (.inl rfl)
 rcases h with h|h|h|h|h|h|h|h <;> obtain⟨rfl,h⟩:=h
 ·show 0<l0 P n R i
  unfold l0;omega
 ·exact k1 i j fu h.1 h.2.1 h.2.2
 ·exact k2 j fu h
 ·show 0<l3 n R i
  unfold l3;omega
 ·show 0<l4 n R i j r
  unfold l4
  split
  ·omega
  ·obtain⟨h1,h2,h3⟩:=h
   obtain⟨h3,h4',h5',-⟩:=h3 (by omega)
   have:100<l5 n 0 0:=by
    unfold l5 l6
    obtain h|h|h|h|h:n=1 \/ n=2 \/ n=3 \/ n=4 \/ n=5:=by omega
    all_goals first|omega|(subst h;simp)
   have h6:Kn n i <= 9:=by unfold Kn;(repeat' split) <;> omega
   have h7:0 <= (R-r)*LZ n:=Int.mul_nonneg (by omega) (by unfold LZ;(repeat' split) <;> omega)
   omega
 ·exact Gq hn ⟨h.1,h.2.1⟩ h.2.2
 ·show 0<l6 n i j fu
  unfold l6;split <;> omega
 ·show 0<n-i
  omega
abbrev CG(M:MemS):Prop:=M.get 1=0 /\ M.get 2=0
structure TV(S:Setup)(ins:Nat -> Inp)(M:MemS):Prop where
 len:(M.cs.length:Int)=sizeOf S
 t0:0 <= M.get 0 /\ M.get 0 <= 1000000
 ct:Mz S.players S.nb S.rounds (M.get 1) (M.get 2) (M.get 3) (M.get 4) (M.get 8)
 pl:∀q:Nat,(q:Int)<(if M.get 1=0 then M.get 2 else S.players) -> M.get (48+4*q)=(ins q).dx /\ M.get (48+4*q+1)=(ins q).dy /\ M.get (48+4*q+2)=(ins q).act
 ec:CG M \/ (0 <= M.get 11 /\ M.get 11 <= 40)
abbrev jc(S:Setup)(M:MemS):Int:=xj S.players S.nb S.rounds (M.get 1) (M.get 2) (M.get 3) (M.get 4) (M.get 8)
structure Nx(S:Setup)(ins:Nat -> Inp)(M:MemS)(r:VR):Prop where
 tv:TV S ins r.M
 lt:jc S r.M<jc S M
 ph:M.get 1 <= r.M.get 1
 t0:r.M.get 0=M.get 0
 ns:¬ CG r.M
 yes:r.em=true -> ¬ CG M /\ r.e.t=M.get 0 /\ r.e.i=M.get 11 /\ r.M.get 11=M.get 11+1
 no:r.em=false -> r.M.get 11=if CG M then 0 else M.get 11
 up:r.M.get 1 <= M.get 1+1
theorem TV.l48{S:Setup}(hS:SetV S){ins:Nat -> Inp}{M:MemS}(h:TV S ins M):48 <= M.cs.length:=by
 have:=h.len;have:=hS.pl;unfold sizeOf at *;omega
theorem gI{S:Setup}(hS:SetV S){ins:Nat -> Inp}{M N:MemS}{r:VR}{p i j q x fu:Int}(h:TV S ins M)(hp:1 <= M.get 1)(hN:Kp S.players M N)(hlen:r.M.cs.length=N.cs.length)
  (g:∀k,r.M.get k=if k=1 then p else if k=2 then i else if k=3 then j else if k=4 then q else if k=5 then x else N.get k) (h8:N.get 8=fu)
  (hE:Ef M ⟨N,r.v,r.e,r.em⟩) (hc:Mz S.players S.nb S.rounds p i j q fu) (QR:M.get 1 <= p) (iN:xj S.players S.nb S.rounds p i j q fu<jc S M) (UF:p <= M.get 1+1:=by omega):Nx S ins M r:=by
 have ha:¬ CG M:=λ e=>by have:=e.1;omega
 have g0:r.M.get 0=M.get 0:=by rw[g];simp;exact hN.get 0 (by omega)
 have g1:r.M.get 1=p:=by rw[g];simp
 have g2:r.M.get 2=i:=by rw[g];simp
 have g3:r.M.get 3=j:=by rw[g];simp
 have g4:r.M.get 4=q:=by rw[g];simp
 have g8:r.M.get 8=fu:=by rw[g];simp;exact h8
 have g11:r.M.get 11=N.get 11:=by rw[g];simp
 have gp:∀k,48 <= k -> k<48+4*S.players -> r.M.get k=M.get k:=λ k h1 h2=>by
  rw[g,if_neg (by omega),if_neg (by omega),if_neg (by omega),if_neg (by omega),if_neg (by omega)]
  exact hN.get k (by omega)
 have VV:0 <= M.get 11 /\ M.get 11 <= 40:=by
  rcases h.ec with e|e
  ·exact absurd e ha
  ·exact e
 refine⟨⟨by rw[hlen,hN.len];exact h.len,by rw[g0];exact h.t0,by rw[g1,g2,g3,g4,g8];exact hc,λ k hk=>?_,.inr ?_⟩,?_,by rw[g1];exact QR,g0,λ e=>by rw[CG,g1] at e;have:=e.1;omega,λ e=>?_,λ e=>?_,by rw[g1];exact UF⟩
 ·rw[g1,if_neg (by omega)] at hk
  have:=h.pl k (by rw[if_neg (by omega)];exact hk)
  rw[gp _ (by omega) (by omega),gp _ (by omega) (by omega),gp _ (by omega) (by omega)]
  exact this
 ·rw[g11]
  cases he:r.em with
  | true=>obtain⟨a,b,c,d⟩:=hE.yes he;simp only at d;omega
  | false=>have:=hE.no he;simp only at this;omega
 ·unfold jc;rw[g1,g2,g3,g4,g8];exact iN
 ·obtain⟨a,b,c,d⟩:=hE.yes e
  exact⟨ha,a,b,by rw[g11];exact d⟩
 ·rw[if_neg ha,g11];exact hE.no e
theorem Hi.kp{P:Int}{M N:MemS}(h:Hi P M N)(hP:0 <= P):Kp P M N:=⟨h.len,λ j hj=>h.get j (by omega)⟩
theorem Hi.ef{P:Int}{M N:MemS}(h:Hi P M N)(hP:0 <= P){v:Int}{e:Eff}:Ef M ⟨N,v,e,false⟩:=⟨λ h=>by simp at h,λ _=>h.get 11 (by omega)⟩
theorem fQ{M:MemS}(h:48 <= M.cs.length)(t:Stp)(a b j:Int):(aQ t a b M).get j=if j=3 then b else if j=2 then 0 else if j=1 then a else M.get j:=by
 unfold aQ
 rw[cj (by simp only[aA];exact h) (by omega) (by omega),cj (by simp only[aA];exact h) (by omega) (by omega),cj h (by omega) (by omega)]
theorem eJ{M:MemS}(t:Stp)(a b:Int):(aQ t a b M).cs.length=M.cs.length:=by unfold aQ;simp only[aA]
theorem if5{k p i j q x z:Int}{f:Int -> Int}(h:(if k=3 then j else if k=2 then i else if k=1 then p else f k)=z)(hq:q=f 4)(hx:x=f 5):z=if k=1 then p else if k=2 then i else if k=3 then j else if k=4 then q else if k=5 then x else f k:=by
 subst h hq hx
 by_cases e1:k=1
 ·subst e1;simp
 by_cases e2:k=2
 ·subst e2;simp
 by_cases e3:k=3
 ·subst e3;simp
 by_cases e4:k=4
 ·subst e4;simp
 by_cases e5:k=5
 ·subst e5;simp
 simp[e1,e2,e3,e4,e5]
theorem Pi{k i z:Int}{f:Int -> Int}(h:(if k=2 then i else f k)=z):z=if k=1 then f 1 else if k=2 then i else if k=3 then f 3 else if k=4 then f 4 else if k=5 then f 5 else f k:=by
 subst h
 by_cases e1:k=1
 ·subst e1;simp
 by_cases e2:k=2
 ·subst e2;simp
 by_cases e3:k=3
 ·subst e3;simp
 by_cases e4:k=4
 ·subst e4;simp
 by_cases e5:k=5
 ·subst e5;simp
 simp[e1,e2,e3,e4,e5]
theorem wI{S:Setup}(hS:SetV S){t:Stp}(ht:t.S=S)(M:MemS):Hi S.players M (bB t (bA t M)):=by
 have hp:0 <= S.players:=by have:=hS.pl;omega
 subst ht
 have ha:Hi t.S.players M (bA t M):=by
  unfold bA
  split
  ·exact(Hi.refl).setB hp (by omega) (by omega) _
  ·exact .refl
 unfold bB
 split
 ·next hm =>
  have hb:ae t.S t.i >= 0:=by
   rcases fP hp t.i with e|⟨_,_,e⟩
   ·unfold ae at e
    rw[if_neg (by have:=hm.1;omega),if_neg (by have:=hm.1;omega)] at e
    have:=hm.1;omega
   ·omega
  exact(ha.setB hp hb (by omega) _).setB hp hb (by omega) _
 ·exact ha
theorem q3{S:Setup}(hS:SetV S){g:Gm}(hg:g.S=S){ins:Nat -> Inp}{M:MemS}(h:TV S ins M)(hp:M.get 1=3):Nx S ins M ⟨aM (g.step M) M,0,bH,false⟩:=by
 have DO:=hS.pl
 have RJ:=hS.nb
 have PO:=hS.ro
 have hc:0 <= M.get 2 /\ M.get 2<S.nb:=by rcases h.ct with h|h|h|h|h|h|h|h <;> omega
 have hh:=wI hS (t:=g.step M) hg M
 have hl:=h.l48 hS
 unfold aM bW
 generalize bB (g.step M) (bA (g.step M) M)=N at *
 have Pu:48 <= N.cs.length:=by rw[hh.len];exact hl
 have e1:=hh.get 1 (by omega);have e2:=hh.get 2 (by omega);have e3:=hh.get 3 (by omega);have e4:=hh.get 4 (by omega);have e8:=hh.get 8 (by omega)
 show Nx S ins M ⟨if aV (M.get 2+1)<g.S.nb then N.set 2 (aV (M.get 2+1)) else _,0,bH,false⟩
 rw[aK (by omega),hg]
 split
 ·refine gI hS h (by omega) (hh.kp (by omega)) (aA _ _ _) (λ k=>Pi (f:=N.get) (cj Pu (by omega) (by omega) k).symm) e8 (hh.ef (by omega)) ?_ (by omega) ?_
  ·rw[e1,e3,e4,hp];exact .inr (.inr (.inr (.inl ⟨rfl,by omega,by omega⟩)))
  ·unfold jc;rw[e1,e3,e4,hp]
   show l3 S.nb S.rounds (M.get 2+1)<l3 S.nb S.rounds (M.get 2)
   unfold l3;omega
 ·refine gI hS h (by omega) (hh.kp (by omega)) ((aA _ _ _).trans (eJ _ _ _)) (p:=4) (i:=0) (j:=1) (q:=0) (x:=N.get 5) (λ k=>?_) e8 (hh.ef (by omega)) ?_ (by omega) ?_
  ·rw[cj (by rw[eJ];exact Pu) (by omega) (by omega),fQ Pu]
   by_cases k4:k=4
   ·subst k4;simp
   ·rw[if_neg k4]
    by_cases k1:k=1
    ·subst k1;simp
    by_cases k2:k=2
    ·subst k2;simp
    by_cases k3:k=3
    ·subst k3;simp
    by_cases k5:k=5
    ·subst k5;simp
    simp[k1,k2,k3,k4,k5]
  ·exact .inr (.inr (.inr (.inr (.inl ⟨rfl,by omega,by omega,λ _=>by omega⟩))))
  ·unfold jc;rw[hp]
   show l4 S.nb S.rounds 0 1 0<l3 S.nb S.rounds (M.get 2)
   unfold l3;omega
end Go.Proofs.YthoijjeddhfcnaaGreatDoor
