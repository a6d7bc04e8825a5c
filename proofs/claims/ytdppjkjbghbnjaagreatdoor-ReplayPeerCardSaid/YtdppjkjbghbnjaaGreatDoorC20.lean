import Derived.Test.YtdppjkjbghbnjaaGreatDoorC19
set_option maxHeartbeats 4000000
set_option maxRecDepth 100000
set_option linter.all false
namespace Go.Proofs.YtdppjkjbghbnjaaGreatDoor
open IntKind
open Go.RowKit
theorem Bt(S:Setup)(rs:List Bx)(ds:List Dr)(F:HL)(hS:SetCl F S)(hM:MapIn F S rs ds)(h1:1 <= S.nb)(Sq:S.rn <= 1000000)(Ut:S.dn <= 1000000):Sp Tryz.prog 89 #[Setup.v S] (ap [] []) F (λ u H'=>∃x:Setup × HL,H'=ap [] [x.2] /\ (u=Setup.v x.1 /\ SetEq S x.1 /\ rq x.1 rs ds x.2)):=by
 have hp:=hS.pl;have hn:=hS.nb;have hr:=hS.room;refine aau Tryz.func89 rfl (mc hS.blk mn) (A:=[]) (Ts:=[]) rfl λ w0=>?_;refine ae 10 [.own 1] λ n1=>aaj (Hp:=[]) (Tp:=[]) [] [] (lx (some ⟨S.bb,S.bo*9,none⟩) S.nb S.bc (jA S) _ (RowL.src uW (by decide) (tM hS.toSh).up) (by omega)) ?_;rintro _ ⟨A2,c3,T4⟩ ⟨rfl,hc5⟩;dsimp only at hc5;refine ae 7 [.own 1] λ _=>?_;obtain⟨bb,rfl,rfl,SX⟩:=hc5.open (by rw[fP];omega);have hcap:S.nb <= c3:=by rw[fP] at SX;exact SX
 refine tc 0 (x:=(bb,.rows 9 c3 (je (jA S)) 90 (0,0)))<|ae 7 [.own 2] λ _=>aap<|aao (σ:=Nat × List Bod × HL) (λ ⟨i,bods,U_⟩=>⟨[(1,vP (n1+0) 0),(2,vP (n1+1) 0),(10,vI (S.nb:Int)),(11,vI (i:Int))],[(bb,.rows 9 c3 (je bods) 90 (0,0)),((n1+1),.lit [vI 0,.slice none 0 0,vI 0,vI 0,vI 0,vI 0,.slice none 0 0,.slice none 0 0,vI 0,vI 0,vI 0,vI 0,vI 0,vI 0,vI 0,vI 0] 31 (0,0)),((n1+0),.lit [vI S.players,vS bb 0 S.nb c3,vI S.box.x0,vI S.box.y0,vI S.box.x1,vI S.box.y1,.slice S.rA S.rn S.rc,.slice S.dA S.dn S.dc,vI S.fog,vI S.g.x,vI S.g.y,vI S.push,vI S.drag,vI S.rest,vI S.rounds,vI S.fuel] 31 (0,0))],[U_],i <= S.nb /\ bods.length=S.nb /\ (∀k,k<S.nb -> ∃A c,bods.getD k dB=(S.body k).at A c) /\ (∀k,k<i -> ShH (bods.getD k dB).sh U_) /\ ∀k,i <= k -> k<S.nb -> bods.getD k dB=S.body k,S.nb-i⟩) (0,jA S,[]) [0,1,2] [0] (⟨aaL _,fP S,λ k hk=>⟨_,_,iJ hk⟩,λ k hk=>absurd hk (Nat.not_lt_zero _),λ k _ hk=>iJ hk⟩) ?_;rintro⟨i,bods,U_⟩ ⟨UD,SD,UO,UN,Vt⟩ Xt;refine ae 6 [] λ _=>aam ((i:Int)<(S.nb:Int)) 12 (λ h8=>?_) λ h8=>?_
 ·refine ae 7 [] λ _=>?_;have Ul:(RowL lw 29 F (bods.getD i dB).sh.A (bods.getD i dB).sh.poly.length (bods.getD i dB).sh.poly /\ (bods.getD i dB).sh.poly.length <= 1000000) /\ ((bods.getD i dB).sh.poly=[] \/ 3 <= (bods.getD i dB).sh.poly.length):=by rw[Vt i (aaK _) (by omega)];exact hS.shp i (by omega)
  have TI:=Ul.1.1;have ZA:(bods.getD i dB).sh.poly.length <= 100000000:=by have:=Ul.1.2;omega
  refine ae 4 [] λ _=>aal [14] []<|aA [] [0,2,3,5,1,4,6,7,8,9] [.own 2,.own 2,.ix i,.row 0 i 1] [((0+i*9)+1)=i*9+1 /\ i<c3,(i:Int)=((i:Nat):Int) /\ i<S.nb]<|aae 10 (aaf [] (Hp:=[]) (Tp:=[]) [] [] (mC ((bods.getD i dB).sh.A) ((bods.getD i dB).sh.poly.length) ((bods.getD i dB).sh.cap) ((bods.getD i dB).sh.poly) _ (RowL.src An (by decide) TI.up) ZA) ?_);rintro _ ⟨A9,Xr,OF⟩ ⟨rfl,W0⟩;dsimp only at W0;refine aA [] [11,12,13] [.ix i] [(i:Int)=((i:Nat):Int) /\ i<S.nb]<|aae 14 (dM [] [.row 0 i 1] [((0+i*9)+1)=i*9+1 /\ i<c3] λ _=>?_);refine aad<|ai 6 [.nw] [bn ((i:Int)+1)] λ _=>aah 0 (congrArg (λ v_=>(.rows 9 c3 v_ 90 (0,0):Blk)) (show (cT (je bods) i 1 (.slice A9 ((bods.getD i dB).sh.poly.length) Xr))=(je (bods.set i ((bods.getD i dB).at A9 Xr))) from (Ce (by omega) A9 Xr)))<|ll [1,0]<|my ?_;refine Xt (i+1,(bods.set i ((bods.getD i dB).at A9 Xr)),U_++OF) [0,1,2] [0] ?_
  try dsimp only
  refine⟨⟨by omega,by rw[List.length_set];exact SD,λ t ht=>?_,λ t ht=>?_,λ t YV S7=>?_⟩,by omega⟩
  ·rcases Decidable.em (i=t) with rfl|h_
   ·rw[dC (by omega),Vt i (aaK _) ht];exact⟨_,_,rfl⟩
   ·rw[cW h_];exact UO t ht
  ·rcases Decidable.em (i=t) with rfl|h_
   ·rw[dC (by omega)];exact ShH.right (tN Ul.2 Ul.1.2 W0)
   ·rw[cW h_];exact(UN t (by omega)).left
  ·rw[cW (by omega)];exact Vt t (by omega) S7
 ·refine ae 10 [.own 2] λ _=>aaj (Hp:=[]) (Tp:=[]) [] [] (mD S.rA S.rn S.rc rs _ (RowL.src Ht (by decide) hM.rooms.up) (by omega)) ?_;rintro _ ⟨A13,c14,SP⟩ ⟨rfl,WZ⟩;dsimp only at WZ;refine ae 8 (ow 2 2) λ _=>aaj (Hp:=[]) (Tp:=[]) [] [] (ly S.dA S.dn S.dc ds _ (RowL.src Hu (by decide) hM.doors.up) (by omega)) ?_;rintro _ ⟨A17,c18,VB⟩ ⟨rfl,WY⟩;dsimp only at WY;refine ae 10 (ow 2 17++ow 1 16) λ _=>aaq (ow 1 16) [0] [0,1,2] (v:=.agg #[vI S.players,vS bb 0 S.nb c3,vI S.box.x0,vI S.box.y0,vI S.box.x1,vI S.box.y1,.slice A13 S.rn c14,.slice A17 S.dn c18,vI S.fog,vI S.g.x,vI S.g.y,vI S.push,vI S.drag,vI S.rest,vI S.rounds,vI S.fuel]) (H':=(ap [(bb,.rows 9 c3 (je bods) 90 (0,0))] [VB,SP,U_])) ?_;have ei:i=S.nb:=by omega
  subst ei;have UY:∀k,bods.getD (0+k) dB=bods.getD k dB:=λ k=>by rw[Nat.zero_add]
  refine⟨((⟨S.players,bb,0,S.nb,c3,c3,bods,S.box,A13,S.rn,c14,A17,S.dn,c18,S.fog,S.g,S.push,S.drag,S.rest,S.rounds,S.fuel⟩:Setup),[(bb,.rows 9 c3 (je bods) 90 (0,0))]++(VB++SP++U_)),(by simp[ap]),rfl,⟨⟨rfl,rfl,rfl,rfl,rfl,rfl,rfl,rfl,rfl,rfl,rfl,rfl⟩,λ k hk=>?_,rfl,SD⟩,λ F2 hF=>⟨⟨⟨hp,by omega⟩,hF _ (by simp),(by show 0+S.nb <= c3;omega),λ k hk=>?_⟩,?_,?_⟩⟩
  ·obtain⟨A,c,h⟩:=UO k hk;exact⟨A,c,by show bods.getD (0+k) dB=_;rw[UY];exact h⟩
  ·show ShIn F2 (bods.getD (0+k) dB).sh;rw[UY];exact UN k hk F2 λ x hx=>hF x (by simp[hx])
  ·have h_:=WZ.rowL (F:=F2) λ x hx=>hF x (by simp[hx]);rw[hM.rooms.len] at h_;exact h_
  ·have h_:=WY.rowL (F:=F2) λ x hx=>hF x (by simp[hx]);rw[hM.doors.len] at h_;exact h_
theorem wc{rs_:List Bx}{ds_:List Dr}{bp pp pl me w:Nat}{S:Setup}{J:Nat -> Nat × Int}{P:PS (List Inp)}{kv:List IvN}{c sn:Nat}{X:Option (Rw × List Inp)}{gb mb rb lb cl rn rc ck un uc en ec rbk sg smb:Nat}{S2 S3:Setup}{rA uA eA:Option Addr}{rl ul el:List Rw}{N:MemS}{Tg Tn Tr Tu Te Tp Tq Ts F:HL}(q1_:P.rows.length=rn)(q2_:P.ck=ck)(q3_:P.used.length=un)(q4_:P.effs.length=en)(q5_:P.rb=rbk)(hse_:SetEq S S2)(hg:GameX rs_ ds_ bp gb mb S2 P.M 0 Tg)(hb:0 <= P.M.base /\ P.M.base+(P.M.lg.length:Int) <= 20000*(c:Int))(hn:RingH rb mb w P.a P.ms Tn)(hkv:LocIn kv)(hr:SlIs gD 38 rl rA rc Tr)(hrl:rl.length=rn)(hrr:RwsT rl P.rows Tp)(hu:SlX gD 38 ul uA uc Tu)(hul:ul.length=un)(huu:RwsT ul P.used Tp)(he:SlIs nu 58 el eA ec Te)(hel:el.length=en)(hee:EfsT el P.effs Tq)(hse3_:SetEq S S3)(hs:GameX rs_ ds_ bp sg smb S3 N 99020000 Ts)(hsc:N.cs=WS S J P.rows sn)(hsn:sn <= rn)(hsb:0 <= N.base /\ N.base <= 1000000*(sn:Int))(hpl:S.players=(pl:Int))(hX:∀p xs,X=some (p,xs) -> ∀F:HL,(∀y∈Tp,y∈F) -> RwIn F xs p)(n cc:Nat)(A:Option Addr)(xs:List Inp)(hl:RowL cL 40 F A n xs)(hn9:n=pl)(Ta:n=xs.length)(UT:1 <= n)(hn2:n <= 1000)(g_:∀k,k<n -> gl (xs.getD k dI))(Sq:rn <= 5000):Sp Tryz.prog 16 #[vP pp 0,vI (rn:Int),.slice A n cc] (ap [(pBk pp pl me w gb rb lb rA rn rc ck uA un uc eA en ec rbk sg),(lb,.obj (cN kv cl))] [Tg,Tn,Tr,Tu,Te,Tp,Tq,Ts]) F (λ u H'=>u=vI 0 /\ PeerR rs_ ds_ bp pp pl me w S J (pT P xs) (oB kv (rn:Int)) c sn none H'):=by
 refine aau Tryz.func16 rfl mn (A:=[(pBk pp pl me w gb rb lb rA rn rc ck uA un uc eA en ec rbk sg),(lb,.obj (cN kv cl))]) (Ts:=[Tg,Tn,Tr,Tu,Te,Tp,Tq,Ts]) rfl λ w0=>?_;refine ae 17 [.own 0] λ _=>aan ((n:Int)=(pl:Int)) 15 (λ h1=>?_) λ h1=>?_
 ·refine ae 12 [] λ _=>aao (σ:=Nat) (λ k_=>⟨[(0,vP pp 0),(1,vI (rn:Int)),(2,.slice A n cc),(16,.slice A n cc),(17,vI (n:Int)),(18,vI (k_:Int))],[(pBk pp pl me w gb rb lb rA rn rc ck uA un uc eA en ec rbk sg),(lb,.obj (cN kv cl))],[Tg,Tn,Tr,Tu,Te,Tp,Tq,Ts],k_ <= n,n-k_⟩) 0 [0,1] [0,1,2,3,4,5,6,7] (aaL _) ?_;rintro k_ Xy Sm;refine ae 6 [] λ _=>aam ((k_:Int)<(n:Int)) 19 (λ h4=>?_) λ h4=>?_
  ·refine ae 7 [] λ _=>?_;obtain⟨qx5,I_,Wm,fx5,aaD,TY,US,ZB,Vq⟩:=hl.at (k:=k_) (by omega);refine aK 16 (congrArg (λ v_=>(.slice v_ n cc:Value)) TY)<|RN.ro (λ _=>(mc US mn))<|ai 2 [.ix k_,.rorow 0 (I_+k_) 0,.rorow 0 (I_+k_) 1,.rorow 0 (I_+k_) 2] [((I_*3+k_*3)+2)=(I_+k_)*3+2 /\ (I_+k_)<Wm,((I_*3+k_*3)+1)=(I_+k_)*3+1 /\ (I_+k_)<Wm,(I_*3+k_*3)=(I_+k_)*3+0 /\ (I_+k_)<Wm,(k_:Int)=((k_:Nat):Int) /\ k_<n] λ _=>aK 21 (congrArg (λ v_=>(.agg #[vI v_.dx,vI v_.dy,vI v_.act]:Value)) Vq)<|ae 7 (ow 0 6) λ n6=>aai (JM (xs.getD k_ dI) _ (g_ k_ (by omega)))<|ai 11 [.gen,.nw] [bn ((k_:Int)+1)] λ _=>aK 16 (congrArg (λ v_=>(.slice v_ n cc:Value)) TY.symm) ?_;refine Sm (k_+1) [1,2] [0,1,2,3,4,5,6,7] ?_
   try dsimp only
   exact⟨by omega,by omega⟩
  ·refine ae 11 [] λ _=>aai (mh pp gb rb lb sg pl me w rn rc ck un uc en ec rbk rA uA eA _ (aw 0))<|ae 3 [] λ _=>db 29 (nt (aba (rfl:(rn:Int)=(rn:Int))))<|ae 10 [] λ _=>aam ((rn:Int) >= 6000) 31 (λ h7=>?_) λ h7=>?_
   ·(exfalso;omega)
   ·refine ae 4 [] λ _=>aal [8,11] []<|ag [] [0,1,5,2,3,4] [.own 0]<|aae 6 (aaf [] (Hp:=[]) (Tp:=[]) [] [] (kQ A n cc xs _ (hl.up.src oL (by decide)) (by omega)) ?_);rintro _ ⟨A8,c9,Ui⟩ ⟨rfl,acM⟩;dsimp only at acM;refine aae 7 (aag [] [] λ n12=>?_);refine aae 8 (nM [] yJ rl [(⟨A8,n,c9⟩:Rw)] 3 0 hrl.symm hr (by simp;omega) ?_);rintro A13 c14 SP ⟨XQ,aj3⟩;refine ag [] [9,10] []<|aae 11 (aag [] [.own 1] λ _=>?_);refine aad<|ae 8 [.own 1] λ _=>OV 2 (kv:=kv) (cl:=cl) (k:=(rn:Int))<|ae 7 [] λ _=>ll [6,1,0,2,3,4,5,7,8]<|my<|aaq [] [1,2] [2,3,1,4,5,0,6,7] (v:=vI 0) (H':=(ap [(pp,.lit [vI (pl:Int),vI (me:Int),vI (w:Int),vP gb 0,vP rb 0,.map (some lb),.slice A13 (rn+1) c14,vI (ck:Int),.slice uA un uc,.slice eA en ec,vI (rbk:Int),vP sg 0] 102 (0,0)),(lb,.obj (cN (oB kv (rn:Int)) cl))] [Tg,Tn,SP,Tu,Te,(Tp++Ui),Tq,Ts])) ?_;exact⟨rfl,PeerR.mk (show (P.rows++[xs]).length=rn+1 by rw[aaP,q1_];rfl) q2_ q3_ q4_ q5_ hse_ hg hb hn (hkv.del _) XQ (by simp[hrl]) (hrr.snocD acM (by omega) Ta) hu hul (huu.more _) he hel hee hse3_ hs (hsc.trans (C4 xs (by rw[q1_];exact hsn)).symm) (by omega) hsb hpl (λ _ _ h_=>by cases h_)⟩
 ·(exfalso;omega)
theorem we{rs_:List Bx}{ds_:List Dr}{bp pp pl me w:Nat}{S:Setup}{J:Nat -> Nat × Int}{P:PS (List Inp)}{kv:List IvN}{c sn:Nat}{X:Option (Rw × List Inp)}{G F:HL}(h:PeerR rs_ ds_ bp pp pl me w S J P kv c sn X G){n cc:Nat}{A:Option Addr}{xs:List Inp}(hl:RowL cL 40 F A n xs)(hn9:n=pl)(Ta:n=xs.length)(UT:1 <= n)(hn2:n <= 1000)(g_:∀k,k<n -> gl (xs.getD k dI))(Sq:P.rows.length <= 5000):Sp Tryz.prog 16 #[vP pp 0,vI (P.rows.length:Int),.slice A n cc] (ap [] [G]) F (λ u H'=>∃T9,H'=ap [] [T9] /\ ((λ u H'=>u=vI 0 /\ PeerR rs_ ds_ bp pp pl me w S J (pT P xs) (oB kv (P.rows.length:Int)) c sn none H') u T9)):=by
 rw[aU];cases h with
 | mk q1_ q2_ q3_ q4_ q5_ hse_ hg hb hn hkv hr hrl hrr hu hul huu he hel hee hse3_ hs hsc hsn hsb hpl hX =>
  rw[q1_];exact(wc q1_ q2_ q3_ q4_ q5_ hse_ hg hb hn hkv hr hrl hrr hu hul huu he hel hee hse3_ hs hsc hsn hsb hpl hX n cc A xs hl hn9 Ta UT hn2 g_ (by omega)).tl
structure PeerI(S:Setup)(J:Nat -> Nat × Int)(w:Nat)(TR:Nat -> List Inp)(P:PS (List Inp))(V:List (List Inp))(m k:Nat):Prop where
 inv:PInv (gP S J) (cV S S.nb) w P V m
 rows:P.rows=(List.range P.rows.length).map TR
 ok:∀r∈V,RowOk S.players r
 lim:P.rows.length <= k /\ P.rb <= k
def Mn(tt:Int)(w vl rl rb XG rl2 rb2 m2:Nat)(n e:Int):Prop :=
 rl2=rl /\ ((n=0 /\ e=18 /\ XG=vl /\ rb2=rb /\ (tt<(vl:Int) \/ tt>(rl:Int)+(w:Int))) \/ (e=0 /\ m2=min XG rl /\ (XG:Int)=tt /\ vl <= XG /\ XG <= rl+w /\ (XG:Int)-(vl:Int) <= n /\ n <= (XG:Int)-(vl:Int)+(w:Int) /\ ((n>(XG:Int)-(vl:Int) /\ rb2=rb+1) \/ (n=(XG:Int)-(vl:Int) /\ rb2=rb))))
section
variable {S:Setup} {J:Nat -> Nat × Int} {w:Nat} {TR:Nat -> List Inp} {P:PS (List Inp)} {V:List (List Inp)} {m k:Nat}
theorem zd(S:Setup)(J:Nat -> Nat × Int)(w:Nat)(TR:Nat -> List Inp)(k:Nat):PeerI S J w TR ⟨⟨cV S S.nb,[],0⟩,0,[],[],0,[],[],0⟩ [] 0 k :=
 ⟨Be ⟨cV S S.nb,[],0⟩ 0,rfl,λ r hr=>(by cases hr),⟨aaL _,aaL _⟩⟩
theorem PeerI.more(h:PeerI S J w TR P V m k){k':Nat}(hk:k <= k'):PeerI S J w TR P V m k':=⟨h.inv,h.rows,h.ok,⟨Nat.le_trans h.lim.1 hk,Nat.le_trans h.lim.2 hk⟩⟩
theorem PeerI.rowsOk(h:PeerI S J w TR P V m k)(hT:∀t,RowOk S.players (TR t)):∀r∈P.rows,RowOk S.players r:=λ r hr=>by
 rw[h.rows] at hr;obtain⟨t,_,rfl⟩:=List.mem_map.1 hr;exact hT t
theorem PeerI.conf(h:PeerI S J w TR P V m k):PeerI S J w TR (pT P (TR P.rows.length)) V m (k+1):=by
 have hl:=h.lim;refine⟨h.inv.conf _,?_,h.ok,⟨by show (P.rows++[_]).length <= _;rw[aaP,List.length_singleton];omega,by show P.rb <= _;omega⟩⟩;show P.rows++[_]=(List.range (P.rows++[_]).length).map TR;rw[aaP,List.length_singleton,List.range_succ,List.map_append,<- h.rows];rfl
theorem PeerI.vlen(h:PeerI S J w TR P V m k):V.length <= P.rows.length+w:=h.inv.win
theorem PeerI.adv(h:PeerI S J w TR P V m k)(hT:∀t,RowOk S.players (TR t))(hw:1 <= w){T:Nat}(h1:V.length <= T)(hse_:T <= P.rows.length+w)(rf:Nat -> List Inp)(hrf:∀t,RowOk S.players (rf t))(Zu:∀t,t<P.rows.length -> P.rows[t]?=some (rf t)) :
  PeerI S J w TR (r7 (gP S J) w P V.length T rf) (yP P V T rf) (min T P.rows.length) (k+1) /\ (yP P V T rf).length=T /\ Mn (T:Int) w V.length P.rows.length P.rb (yP P V T rf).length (r7 (gP S J) w P V.length T rf).rows.length (r7 (gP S J) w P V.length T rf).rb (min T P.rows.length) ((T-eV P V.length:Nat):Int) 0:=by
 obtain⟨a1,a2,a3,a4⟩:=h.inv.adv hw h1 hse_ rf Zu;obtain⟨k1,k2,k3,k4,k5⟩:=h.inv.adv1;have hf:=h.inv.far;have hl:=h.lim;refine⟨⟨a1,by rw[a3];exact h.rows,λ r hr=>?_,⟨by rw[a3];omega,by rw[a4];split <;> omega⟩⟩,a2,by rw[a3],.inr ⟨rfl,by rw[a2],by rw[a2],by omega,by omega,by omega,by omega,?_⟩⟩
 ·unfold yP at hr;rcases List.mem_append.1 hr with hr|hr
  ·exact h.ok r (List.mem_of_mem_take hr)
  ·obtain⟨t,rfl⟩:=pA _ _ hr;exact hrf t
 ·rw[a2,a4]
  by_cases hx:eV P V.length<V.length
  ·rw[if_pos hx];exact .inl ⟨by omega,rfl⟩
  ·rw[if_neg hx];exact .inr ⟨by omega,rfl⟩
end
section
variable {rs_:List Bx} {ds_:List Dr} {bp pp pl me w:Nat} {S:Setup} {J:Nat -> Nat × Int} {P:PS (List Inp)} {kv:List IvN} {c sn:Nat} {TR:Nat -> List Inp} {V:List (List Inp)} {m k:Nat} {G F:HL}
theorem PeerR.loc_ok{X:Option (Rw × List Inp)}(h:PeerR rs_ ds_ bp pp pl me w S J P kv c sn X G){t:Int}{x:Inp}(e:jk kv t=some x):gl x:=by
 cases h with
 | mk q1_ q2_ q3_ q4_ q5_ hse_ hg hb hn hkv hr hrl hrr hu hul huu he hel hee hse3_ hs hsc hsn hsb hpl hX=>exact hkv.ok e
theorem PeerR.plE{X:Option (Rw × List Inp)}(h:PeerR rs_ ds_ bp pp pl me w S J P kv c sn X G):S.players=(pl:Int):=by
 cases h with
 | mk q1_ q2_ q3_ q4_ q5_ hse_ hg hb hn hkv hr hrl hrr hu hul huu he hel hee hse3_ hs hsc hsn hsb hpl hX=>exact hpl
theorem M6(h:PeerR rs_ ds_ bp pp pl me w S J P kv c sn none G)(hI:PeerI S J w TR P V m k)(hT:∀t,RowOk S.players (TR t))(hV:SetV S)(VV:me<pl)(hw:1 <= w /\ w <= 12)(hk:k <= 36)(hc:c <= 50*k)(S4:∀i,i <= 50 -> (J i).1<5 /\ AtOk F bp (i:Int) (J i))(hE:cM F){tt:Int}:Sp Tryz.prog 17 #[vP pp 0,vI tt] (ap [] [G]) F (λ u H'=>∃y:(Int × Int × PS (List Inp) × List IvN × Nat × List (List Inp) × Nat) × HL,H'=ap [] [y.2] /\ (u=.tuple #[vI y.1.1,vI y.1.2.1] /\ PeerR rs_ ds_ bp pp pl me w S J y.1.2.2.1 y.1.2.2.2.1 y.1.2.2.2.2.1 sn none y.2 /\ PeerI S J w TR y.1.2.2.1 y.1.2.2.2.2.2.1 y.1.2.2.2.2.2.2 (k+1) /\ y.1.2.2.2.2.1 <= 50*(k+1) /\ Mn tt w V.length P.rows.length P.rb y.1.2.2.2.2.2.1.length y.1.2.2.1.rows.length y.1.2.2.1.rb y.1.2.2.2.2.2.2 y.1.1 y.1.2.1)):=by
 have hl:=hI.lim;have hv:=hI.vlen;have hpl:=h.plE;have hr:=hI.rowsOk hT
 by_cases hb:tt<(V.length:Int) \/ tt>(P.rows.length:Int)+(w:Int)
 ·refine(JX h hI.inv hV hI.ok hr VV hw (by omega) (by omega) (by omega) (by omega) S4 hE tt hb).mono λ u H' q=>?_;obtain⟨x,rfl,h1,hse_⟩:=q;exact⟨((0,18,P,kv,c,V,m),x),rfl,h1,hse_,hI.more (Nat.le_succ _),by show c <= _;omega,rfl,.inl ⟨rfl,rfl,rfl,rfl,hb⟩⟩
 ·obtain⟨T,rfl⟩:∃T:Nat,tt=(T:Int):=⟨tt.toNat,by omega⟩;refine(Mm h hI.inv hV hI.ok hr VV hw (by omega) (by omega) (by omega) (by omega) S4 hE T (by omega) (by omega) (by omega)).mono λ u H' q=>?_;obtain⟨x,rfl,h1,hse_⟩:=q;have ha:=hI.adv hT hw.1 (T:=T) (by omega) (by omega) (ii pl me P.rows (jk kv)) (λ t=>by rw[hpl];exact C3 (by rw[<- hpl];exact hr) (λ t x e=>h.loc_ok e) t) (λ t ht=>uz ht);exact⟨((((T-eV P V.length:Nat):Int),0,r7 (gP S J) w P V.length T (ii pl me P.rows (jk kv)),kv,c+(T-eV P V.length),yP P V T (ii pl me P.rows (jk kv)),min T P.rows.length),x),rfl,h1,hse_,ha.1,by show c+_ <= _;omega,ha.2.2⟩
theorem O0(h:PeerR rs_ ds_ bp pp pl me w S J P kv c sn none G)(hI:PeerI S J w TR P V m k)(hT:∀t,RowOk S.players (TR t))(hV:SetV S)(hk:k <= 36)(hc:c <= 50*k){n cc:Nat}{A:Option Addr}{xs:List Inp}(hl:RowL cL 40 F A n xs)(Zg:xs=TR P.rows.length){t:Int}(ht:t=(P.rows.length:Int)):Sp Tryz.prog 16 #[vP pp 0,vI t,.slice A n cc] (ap [] [G]) F (λ u H'=>∃x,H'=ap [] [x] /\ (u=vI 0 /\ PeerR rs_ ds_ bp pp pl me w S J (pT P (TR P.rows.length)) (oB kv (P.rows.length:Int)) c sn none x /\ PeerI S J w TR (pT P (TR P.rows.length)) V m (k+1))):=by
 subst Zg;subst ht;have hli:=hI.lim;have hpl:=h.plE;have hp1:=hV.pl;have hr:=hT P.rows.length;have hn:=hl.len;have WD:=hr.1;refine(we (cc:=cc) h hl (by omega) hn.symm (by omega) (by omega) (λ i hi=>hr.2 i (by omega)) (by omega)).mono λ u H' q=>?_;obtain⟨x,rfl,h1,hse_⟩:=q;exact⟨x,rfl,h1,hse_,hI.conf⟩
end
theorem Fw(S:Setup)(A:Option Addr)(n cap:Nat)(xs:List Int)(t:Int)(F:HL)(hl:ArgL F A n xs)(hn:n <= 9223372036854775807)(hp:0 <= S.players /\ S.players <= 1000000)(ht:0 <= t /\ t <= 1000000):Sp Tryz.prog 53 #[Setup.v S,.slice A n cap,vI t] (ap [] []) F (λ u H'=>∃x:Option Addr × Nat × HL,H'=ap [] [x.2.2] /\ (u=.slice x.1 S.players.toNat x.2.1 /\ SlIs cL 40 (rowL S.players xs (t / 2) S.players.toNat) x.1 x.2.1 x.2.2 /\ bA x.1)):=by
 refine aau Tryz.func53 rfl mn (A:=[]) (Ts:=[]) rfl λ w0=>?_;refine ai 12 (ow 0 16++[.nw]) [0 <= t /\ (0:Int)<2 /\ t <= 9223372036854775807] λ n1=>aaj (Hp:=[]) (Tp:=[]) [] [] (Lg S A n cap xs (t / 2) _ hl.up hn (by omega) (by omega)) ?_;rintro _ ⟨A2,c3,T4⟩ ⟨rfl,TH,hz6⟩;dsimp only at TH hz6;refine ae 3 [] λ _=>aaq [] [] [0] (v:=.slice A2 S.players.toNat c3) (H':=(ap [] [T4])) ?_;exact⟨(A2,c3,T4),rfl,rfl,TH,hz6⟩
def eJ(pl:Int)(xs:List Int)(n:Nat):List (List Inp):=(List.range n).map λ t:Nat=>rowL pl xs ((t:Int) / 2) pl.toNat
theorem ze(pl:Int)(xs:List Int)(n:Nat):eJ pl xs (n+1)=eJ pl xs n++[rowL pl xs ((n:Int) / 2) pl.toNat]:=by simp[eJ,List.range_succ]
theorem sf{pl:Int}{xs:List Int}{n k:Nat}(h:k<n):(eJ pl xs n).getD k []=rowL pl xs ((k:Int) / 2) pl.toNat:=by simp[eJ,h]
theorem Bu{F:HL}{A:Option Addr}{n:Nat}{xs:List Int}(hl:ArgL F A n xs){pl:Int}(hp:0 <= pl)(cnt i:Nat)(hi:i<cnt):RowOk pl ((eJ pl xs cnt).getD i []):=by
 rw[sf hi];exact CX hl hp _
abbrev si(S:Setup)(xs:List Int):Nat -> List Inp:=λ t=>rowL S.players xs ((t:Int) / 2) S.players.toNat
theorem PeerI.fin{S:Setup}{J:Nat -> Nat × Int}{w:Nat}{TR:Nat -> List Inp}{P:PS (List Inp)}{V:List (List Inp)}{m k:Nat}(h:PeerI S J w TR P V m k)(h1:m=V.length)(h2:V.length=P.rows.length):V=P.rows:=by
 have h3:=h.inv.eq;rwa [h1,List.take_length,h2,List.take_length] at h3
theorem Bv{α:Type}{l r:List α}{o n:Nat}(h:(l.drop o).take n=r){k:Nat}(hk:k<n){d:α}:l.getD (o+k) d=r.getD k d:=by
 have h1:((l.drop o).take n)[k]?=r[k]?:=by rw[h]
 rw[aa7,if_pos hk,aa6] at h1;rw[aaI,aaI,h1]
theorem Fx(mb w:Nat)(F:HL)(hw:1 <= w /\ w <= 13):Sp Tryz.prog 63 #[vP mb 0,vI (w:Int)] [] F (λ u H'=>∃b:Nat,H'=ap [(b,.lit [vP mb 0,vI (w:Int),.slice none 0 0] 169 (0,0))] [] /\ u=vP b 0):=by
 refine aau Tryz.func63 rfl mn (A:=[]) (Ts:=[]) rfl λ w0=>?_;refine ae 11 [] λ _=>aK 8 (congrArg (λ v_=>(vI v_:Value)) (show (if (if 13<(w:Int) then 13 else (w:Int))>1 then (if 13<(w:Int) then 13 else (w:Int)) else 1)=(w:Int) by (repeat' split) <;> omega))<|ae 5 [] λ n1=>aaq [] [0] [] (v:=vP (n1+0) 0) (H':=(ap [((n1+0),.lit [vP mb 0,vI (w:Int),.slice none 0 0] 169 (0,0))] [])) ?_;exact⟨_,rfl,rfl⟩
theorem uF(mb w:Nat)(F:HL)(hw:1 <= w /\ w <= 13):Sp Tryz.prog 63 #[vP mb 0,vI (w:Int)] (ap [] []) F (λ u H'=>∃x:Nat × HL,H'=ap [] [x.2] /\ (u=vP x.1 0 /\ RingH x.1 mb w 0 [] x.2)):=(Fx mb w F hw).mono λ u H' h=>by
 obtain⟨b,rfl,hse_⟩:=h;refine⟨(b,ap [(b,.lit [vP mb 0,vI (w:Int),.slice none 0 0] 169 (0,0))] [[]]),by simp[ap],hse_,?_⟩;exact RingH.mk (n:=0) (SlX.nil _ _) rfl (λ _=>⟨rfl,rfl,rfl⟩)
theorem zf(S:Setup)(rs:List Bx)(ds:List Dr)(bp pl me w:Nat)(J:Nat -> Nat × Int)(F:HL)(hS:SetCl F S)(hM:MapIn F S rs ds)(h1:1 <= S.nb)(Sq:S.rn <= 1000000)(Ut:S.dn <= 1000000)(D_:(sizeOf S).toNat <= 1000000)(hv:jL S rs ds=0)(hpl:S.players=(pl:Int))(VV:me<pl)(hw:1 <= w /\ w <= 12):Sp Tryz.prog 37 #[Setup.v S,vP bp 0,vI (me:Int),vI (w:Int)] (ap [] []) F (λ u H'=>∃x:Nat × HL,H'=ap [] [x.2] /\ (u=.tuple #[vP x.1 0,vI 0] /\ PeerR rs ds bp x.1 pl me w S J (⟨⟨cV S S.nb,[],0⟩,0,[],[],0,[],[],0⟩:PS (List Inp)) ([]) 0 0 none x.2)):=by
 have afJ:=fZ S S.nb;refine aau Tryz.func37 rfl mn (A:=[]) (Ts:=[]) rfl λ w0=>?_;refine ae 11 (ow 0 16) λ n1=>aaj (Hp:=[]) (Tp:=[]) [] [] (lA S rs ds bp _ hS.up hM.up h1 Sq Ut D_ hv 99020000 (by decide)) ?_;rintro _ ⟨g2,S3,T4⟩ ⟨rfl,VY,Xj⟩;dsimp only at VY Xj;obtain⟨abv,Zi⟩:=Xj.x;refine ae 23 [] λ _=>aam ((me:Int)<0) 24 (λ h7=>?_) λ h7=>?_
 ·(exfalso;omega)
 ·refine ae 7 [.own 0] λ _=>aam ((me:Int) >= S.players) 29 (λ h8=>?_) λ h8=>?_
  ·(exfalso;omega)
  ·refine ae 9 [] λ _=>aam ((w:Int)<1) 32 (λ h9=>?_) λ h9=>?_
   ·(exfalso;omega)
   ·refine ae 5 [] λ _=>aam ((w:Int)>12) 35 (λ Uh=>?_) λ Uh=>?_
    ·(exfalso;omega)
    ·refine ae 7 (ow 0 16) λ _=>aaj (Hp:=[]) (Tp:=[]) [] [] (lA S rs ds bp _ hS.up hM.up h1 Sq Ut D_ hv 99020000 (by decide)) ?_;rintro _ ⟨g11,S12,TF⟩ ⟨rfl,ZQ,Xk⟩;dsimp only at ZQ Xk;obtain⟨ajW,abF⟩:=Xk.x;refine ae 18 [] λ _=>aal [] []<|ag [] [0,2,3,4,5,7,10,1] [.own 0]<|aac [] 6 (λ X_=>(uB Zi (aO 1)))<|fG 8 9 ?_ ?_
     ·refine aaf [] (Hp:=[]) (Tp:=[]) [] [] (uF abv w _ (by omega)) ?_;rintro _ ⟨b16,TA⟩ ⟨rfl,acb⟩;dsimp only at acb;refine aae 9 (aag [] [] λ Yq=>?_);refine fW 46 (congrArg (λ v_=>(vI v_:Value)) hpl)<|ag [] [11] []<|aae 12 (aag [] [] λ VP=>?_);refine ag [] [13,14] []<|aad<|ae 1 [] λ _=>aaq [] [0,1] [2,0,1] (v:=.tuple #[vP (VP+0) 0,vI 0]) (H':=(ap [((VP+0),.lit [vI (pl:Int),vI (me:Int),vI (w:Int),vP g2 0,vP b16 0,.map (some (Yq+0)),.slice none 0 0,vI 0,.slice none 0 0,.slice none 0 0,vI 0,vP g11 0] 102 (0,0)),((Yq+0),.obj (cN [] 0))] [T4,TA,TF])) ?_;exact⟨((VP+0),ap [((VP+0),.lit [vI (pl:Int),vI (me:Int),vI (w:Int),vP g2 0,vP b16 0,.map (some (Yq+0)),.slice none 0 0,vI 0,.slice none 0 0,.slice none 0 0,vI 0,vP g11 0] 102 (0,0)),((Yq+0),.obj (cN [] 0))] [T4,TA,[],[],[],[],[],TF]),by simp[ap],rfl,PeerR.mk (P:=(⟨⟨cV S S.nb,[],0⟩,0,[],[],0,[],[],0⟩:PS (List Inp))) (rl:=[]) (ul:=[]) (el:=[]) rfl rfl rfl rfl rfl VY (Zi.weak (aaL _)) ⟨Int.le_refl 0,Int.le_refl 0⟩ acb LocIn.nil (aat _ _) rfl RwsT.nil (SlX.nil _ _) rfl RwsT.nil (aat _ _) rfl EfsT.nil ZQ abF rfl (aaK _) ⟨Int.le_refl 0,Int.le_refl 0⟩ hpl (λ _ _ h_=>by cases h_)⟩
     ·refine aag [] [] λ Of=>aae 8 (aaf [] (Hp:=[]) (Tp:=[]) [] [] (uF abv w _ (by omega)) ?_);rintro _ ⟨b22,Y2⟩ ⟨rfl,aca⟩;dsimp only at aca;refine fW 46 (congrArg (λ v_=>(vI v_:Value)) hpl)<|ag [] [11] []<|aae 12 (aag [] [] λ n25=>?_);refine ag [] [13,14] []<|aad<|ae 1 [] λ _=>aaq [] [0,1] [2,0,1] (v:=.tuple #[vP (n25+0) 0,vI 0]) (H':=(ap [((n25+0),.lit [vI (pl:Int),vI (me:Int),vI (w:Int),vP g2 0,vP b22 0,.map (some (Of+0)),.slice none 0 0,vI 0,.slice none 0 0,.slice none 0 0,vI 0,vP g11 0] 102 (0,0)),((Of+0),.obj (cN [] 0))] [T4,Y2,TF])) ?_;exact⟨((n25+0),ap [((n25+0),.lit [vI (pl:Int),vI (me:Int),vI (w:Int),vP g2 0,vP b22 0,.map (some (Of+0)),.slice none 0 0,vI 0,.slice none 0 0,.slice none 0 0,vI 0,vP g11 0] 102 (0,0)),((Of+0),.obj (cN [] 0))] [T4,Y2,[],[],[],[],[],TF]),by simp[ap],rfl,PeerR.mk (P:=(⟨⟨cV S S.nb,[],0⟩,0,[],[],0,[],[],0⟩:PS (List Inp))) (rl:=[]) (ul:=[]) (el:=[]) rfl rfl rfl rfl rfl VY (Zi.weak (aaL _)) ⟨Int.le_refl 0,Int.le_refl 0⟩ aca LocIn.nil (aat _ _) rfl RwsT.nil (SlX.nil _ _) rfl RwsT.nil (aat _ _) rfl EfsT.nil ZQ abF rfl (aaK _) ⟨Int.le_refl 0,Int.le_refl 0⟩ hpl (λ _ _ h_=>by cases h_)⟩
def mM(b:Nat):Setup:=⟨1,b,0,1,1,1,[⟨⟨5,[],none,0⟩,⟨0,0,0,0,0⟩,0,0⟩],⟨0,0,0,0⟩,none,0,0,none,0,0,0,⟨0,0⟩,0,0,0,1,0⟩
theorem zg(b:Nat):jL (mM b) [] []=0:=by kernel_rfl
theorem Bw(b:Nat):SetV (mM b):=⟨⟨show (1:Int) <= 1 by decide,show (1:Int) <= 3 by decide⟩,⟨show 1 <= 1 by decide,show 1 <= 5 by decide⟩,⟨show (1:Int) <= 1 by decide,show (1:Int) <= 3 by decide⟩,⟨show (0:Int) <= 0 by decide,show (0:Int) <= 60 by decide⟩⟩
theorem Mo{b:Nat}{F:HL}(hb:(b,.rows 9 1 (je (mM b).bods) 90 (0,0))∈F):SetCl F (mM b):=⟨⟨⟨show (0:Int) <= 1 by decide,show (1:Int) <= 1000000 by decide⟩,show 1 <= 1000000 by decide⟩,hb,show 0+1 <= 1 by decide,λ k hk=>by
 obtain rfl:k=0:=by have:k<1:=hk;omega
 exact⟨⟨.zero _,aaL _⟩,.inl rfl⟩⟩
theorem JY(b:Nat)(F:HL):MapIn F (mM b) [] []:=⟨.zero _,.zero _⟩
theorem Fy(b:Nat):sizeOf (mM b)=60:=rfl
abbrev pU(n:Nat):List (List Inp):=List.replicate n [⟨0,0,0⟩]
theorem Fz{n i:Nat}(h:i<n):(pU n).getD i []=[⟨0,0,0⟩]:=by simp[pU,aaI,h]
theorem sj{n i:Nat}(h:i<n):RowOk 1 ((pU n).getD i []):=by
 rw[Fz h];refine⟨rfl,λ k hk=>?_⟩;obtain rfl:k=0:=by have:k<1:=hk;omega
 decide
theorem JZ(x:Int):oV (i64.wrap x):=by
 unfold oV;rw[IntKind.wrap_i64];omega
abbrev v3:List (List Inp):=[[dI],[dI],[dI]]
section
variable {S:Setup} {J:Nat -> Nat × Int} {w:Nat} {TR:Nat -> List Inp} {P:PS (List Inp)} {V:List (List Inp)} {m k:Nat}
theorem PeerI.rowsR{xs:List Int}(h:PeerI S J w (si S xs) P V m k){n:Nat}(hn:P.rows.length=n):P.rows=eJ S.players xs n:=by
 have:=h.rows;rw[hn] at this;exact this
theorem PeerI.cells(h:PeerI S J w TR P V m k)(hv:V=P.rows){n:Nat}(hn:P.rows.length=n):P.M.cs=WS S J P.rows n:=by
 have h1:=h.inv.ws;rw[hv,hn] at h1;exact h1
end
structure Ck where (A:Option Addr) (n c:Nat) (r:Int)
def FB:Enc Ck:=⟨2,λ p k=>match k with|0=>.slice p.A p.n p.c|_=>.int .u64 p.r,⟨none,0,0,0⟩⟩
noncomputable def QS:TypeInfo:=match Tryz.prog.info? 131 with | some i=>i | none=>⟨.bool,"",0,0,false,0,0,none,false,#[]⟩
noncomputable def QT:Value:=match QS.zero with|some z=>z|none=>.bool false
theorem QU:EncOk FB Tryz.prog 131 QS QT where
 info:=by kernel_rfl
 zero:=by kernel_rfl
 size:=by kernel_rfl
 zsize:=by kernel_rfl
 zcell:=λ k hk=>by
  have h:∀k<2,QT.cells[k]?=some (FB.cell FB.dflt k):=by intro k hk;(iterate 2 (rcases k with _|k;· kernel_rfl));omega
  exact h k hk
 one:=λ x k=>by unfold FB;dsimp only;split <;> rfl
 bytes:=aaJ (by kernel_rfl)
def CksT(cl:List Ck)(Xp:Nat -> List Int)(T:HL):Prop:=∀F:HL,(∀x∈T,x∈F) -> ∀k,k<cl.length -> ∃q,cl.getD k FB.dflt=⟨some ⟨q,0,none⟩,(Xp k).length,(Xp k).length,kW (Xp k)⟩ /\ (q,.rows 1 (Xp k).length (aE (Xp k)) 3 (0,0))∈F
theorem CksT.nil(Xp:Nat -> List Int):CksT [] Xp []:=λ F _ k hk=>absurd hk (Nat.not_lt_zero _)
theorem CksT.snoc{cl:List Ck}{Xp:Nat -> List Int}{T:HL}{q:Nat}{cs:List Int}(h:CksT cl Xp T)(e:Xp cl.length=cs):CksT (cl++[⟨some ⟨q,0,none⟩,cs.length,cs.length,kW cs⟩]) Xp (T++[(q,.rows 1 cs.length (aE cs) 3 (0,0))]):=λ F hF k hk=>by
 rw[fQ]
 by_cases SV:k<cl.length
 ·rw[if_pos SV];exact h F (λ x hx=>hF x (aaA _ hx)) k SV
 ·have:k=cl.length:=by simp at hk;omega
  rw[if_neg SV,if_pos this,this,e];exact⟨q,rfl,hF _ (aay _ (List.mem_singleton.2 rfl))⟩
theorem RwsT.snocC{rs:List Rw}{xss:List (List Inp)}{T T1:HL}{xs:List Inp}{A:Option Addr}{c n:Nat}(h:RwsT rs xss T)(hs:ClS cL 40 xs A c T1)(h1:1 <= xs.length)(hn:n=xs.length):RwsT (rs++[⟨A,n,c⟩]) (xss++[xs]) (T++T1):=by
 obtain⟨A0,hs⟩:=hs;rcases hs with ⟨rfl,_⟩|⟨b,rfl,rfl,h3⟩
 ·simp at h1
 ·refine h.snoc (A:=some ⟨b,0,none⟩) (c:=c) (T1:=[(b,.rows 3 c (aL cL xs) 40 (0,0))]) (.inr ⟨b,0,xs++List.replicate (c-xs.length) cL.dflt,by simp,?_,by simp;omega,h3,by simp⟩) h1 hn;rw[Nat.zero_add,lm];rfl
theorem J0{n ev:Nat}(h:(n+1) % ev=0):(n+1) / ev=n / ev+1:=by rw[Nat.succ_div,if_pos (Nat.dvd_of_mod_eq_zero h)]
theorem O2{n ev:Nat}(h:¬ (n+1) % ev=0):(n+1) / ev=n / ev:=by rw[Nat.succ_div,if_neg (λ e=>h (Nat.mod_eq_zero_of_dvd e))];rfl
theorem O3{n ev:Nat}(h:(n+1) % ev=0):(n / ev+1)*ev=n+1:=by
 rw[<- J0 h,Nat.mul_comm];have:=Nat.div_add_mod (n+1) ev;omega
theorem sk(S2 S3:Setup)(rs_:List Bx)(ds_:List Dr)(bp gb mb rp ev rn rc cc k:Nat)(rA cA:Option Addr)(cl:List Ck)(M:MemS)(G0 Hl F:HL)(hG:GameX rs_ ds_ bp gb mb S2 M k G0)(hF:∀x∈G0,x∈F)(hs:SlIs FB 131 cl cA cc Hl)(hcl:cl.length <= 100000)(YH:M.cs.length <= 1000000):Sp Tryz.prog 90 #[vP rp 0] (ap [(rp,.lit (Setup.l S3++[vP bp 0,vI (ev:Int),vP gb 0,.slice rA rn rc,.slice cA cl.length cc]) 127 (0,0))] [Hl]) F (λ u H'=>∃x:(Nat × Option Addr × Nat) × HL,H'=ap [(rp,.lit (Setup.l S3++[vP bp 0,vI (ev:Int),vP gb 0,.slice rA rn rc,.slice x.1.2.1 (cl.length+1) x.1.2.2]) 127 (0,0)),(x.1.1,.rows 1 M.cs.length (aE M.cs) 3 (0,0))] [x.2] /\ (u=.tuple #[] /\ SlIs FB 131 (cl++[⟨some ⟨x.1.1,0,none⟩,M.cs.length,M.cs.length,kW M.cs⟩]) x.1.2.1 x.1.2.2 x.2)):=by
 refine aau Tryz.func90 rfl mn (A:=[(rp,.lit (Setup.l S3++[vP bp 0,vI (ev:Int),vP gb 0,.slice rA rn rc,.slice cA cl.length cc]) 127 (0,0))]) (Ts:=[Hl]) rfl λ w0=>?_;refine ae 6 [.own 0] λ _=>aai (uB hG (λ x hx=>au (hF x hx)))<|aaj (Hp:=[]) (Tp:=[]) [] [] (v6 hG (λ x hx=>au (hF x hx))) ?_;rintro _ q1 rfl;refine ae 3 [] λ _=>aal [10,13] []<|ag [] [0,1,5,6,2,3,4] [.own 1]<|aac [] 7 (λ X_=>(Fd q1 M.cs.length M.cs _ (fd 0) (aaK _) YH))<|ag [] [8] []<|aae 9 (aag [] [] λ n3=>?_);refine aae 10 (nM [] QU cl [(⟨some ⟨q1,0,none⟩,M.cs.length,M.cs.length,kW M.cs⟩:Ck)] 0 0 rfl hs (by simp;omega) ?_);rintro A4 c5 T6 ⟨Yz,hz8⟩;refine ag [] [11,12] []<|aae 13 (aag [] [.own 2] λ _=>?_);refine aad<|aaq [] [2,1] [0] (v:=.tuple #[]) (H':=(ap [(rp,.lit (Setup.l S3++[vP bp 0,vI (ev:Int),vP gb 0,.slice rA rn rc,.slice A4 (cl.length+1) c5]) 127 (0,0)),(q1,.rows 1 M.cs.length (aE M.cs) 3 (0,0))] [T6])) ?_;exact⟨((q1,A4,c5),T6),rfl,rfl,Yz⟩
theorem pB{rs_:List Bx}{ds_:List Dr}{S2:Setup}{bp gb mb b o N c:Nat}{j:Nat × Int}{full xs:List Inp}{M:MemS}{G0 F:HL}(hG:GameX rs_ ds_ bp gb mb S2 M (99000000+20000) G0)(hb:0 <= M.base /\ M.base <= 900000000)(hj:j.1<5)(hA:AtOk F bp (M.get 0) j)(hE:cM F)(hI:(b,.rows 3 N (js full) 40 (0,0))∈F)(hir:o+xs.length <= N)(UB:xs.length <= 1000000)(hx:∀k,k<xs.length -> full.getD (o+k) dI=xs.getD k dI)(hk:TkOk S2 j xs M):Sp Tryz.prog 66 #[vP gb 0,vS b (o*3) xs.length c] (ap [] [G0]) F (λ u H'=>∃x:MemS × HL,H'=ap [] [x.2] /\ (u=vI 0 /\ GameX rs_ ds_ bp gb mb S2 x.1 99020000 x.2 /\ x.1.cs=(iq (oD S2 j xs) M).cs /\ 0 <= x.1.base /\ x.1.base <= M.base+1000000)):=by
 refine aau Tryz.func66 rfl mn (A:=[]) (Ts:=[G0]) rfl λ w0=>?_;refine ae 9 [] λ _=>aaj [] [0] (yW (c:=c) (k:=99000000) hG hj (hA.mono λ x hx=>au hx) (au hE) (au hI) hir UB hx hk) ?_;rintro _ ⟨⟨A1,c2,n3⟩,T4,E5⟩ ⟨Xj,Yz,rfl⟩;dsimp only at Xj Yz;have acU:0 <= (iq (oD S2 j xs) M).base /\ (iq (oD S2 j xs) M).base <= 1000000000:=by rw[ox];omega
 refine ae 22 [] λ _=>aai (uB Xj (ar 0))<|ae 7 [] λ _=>aai (OS Xj (ar 0) acU)<|aaj [] [0] (QN (k2:=99020000) Xj _ (by decide) acU) ?_;rintro _ T8 ⟨rfl,hG9⟩;refine ae 3 [] λ _=>aaq [] [] [0] (v:=vI 0) (H':=(ap [] [T8])) ?_;obtain⟨_,VG,_⟩:=Xj.mem;have U5:=VG.len2;have aln:=ox (oD S2 j xs) M;exact⟨(⟨(iq (oD S2 j xs) M).cs,[],(iq (oD S2 j xs) M).base+((iq (oD S2 j xs) M).lg.length:Int)⟩,T8),rfl,rfl,hG9,rfl,by show 0 <= (iq (oD S2 j xs) M).base+_;omega,by show (iq (oD S2 j xs) M).base+_ <= _;omega⟩
inductive RecH(rs_:List Bx)(ds_:List Dr)(bp ev rp:Nat)(S S2:Setup)(W:Nat -> List Int)(n:Nat)(pre:List (List Inp)):HL -> Prop
 | mk {gb mb rc cc:Nat} {S3:Setup} {M:MemS} {rA cA:Option Addr} {rl:List Rw} {cl:List Ck} {Tg Ts Tr Trr Tc Tcc:HL} (h3:SetEq S S3) (hs:rq S3 rs_ ds_ Ts) (hg:GameX rs_ ds_ bp gb mb S2 M 99020000 Tg) (hcs:M.cs=W n) (hb:0 <= M.base /\ M.base <= 1000000*(n:Int)) (hr:SlIs gD 38 rl rA rc Tr) (hrl:rl.length=n) (hrr:RwsT rl pre Trr) (hc:SlIs FB 131 cl cA cc Tc) (hcl:cl.length=n / ev+1) (hck:CksT cl (λ k=>W (k*ev)) Tcc) :
  RecH rs_ ds_ bp ev rp S S2 W n pre (ap [(rp,.lit (Setup.l S3++[vP bp 0,vI (ev:Int),vP gb 0,.slice rA n rc,.slice cA cl.length cc]) 127 (0,0))] [Tg,Ts,Tr,Trr,Tc,Tcc])
theorem J1(S S2 S3:Setup)(rs_:List Bx)(ds_:List Dr)(bp gb mb rp ev n rc cc b o N c:Nat)(rA cA:Option Addr)(j:Nat × Int)(full xs:List Inp)(rl:List Rw)(pre:List (List Inp))(cl:List Ck)(W:Nat -> List Int)(M:MemS)(G0 Ts Tr Trr Tc Tcc F:HL)(h3:SetEq S S3)(hs:rq S3 rs_ ds_ Ts)(hG:GameX rs_ ds_ bp gb mb S2 M 99020000 G0)(hb:0 <= M.base /\ M.base <= 1000000*(n:Int))(hn:n <= 800)(hr:SlIs gD 38 rl rA rc Tr)(hrl:rl.length=n)(hrr:RwsT rl pre Trr)(hc:SlIs FB 131 cl cA cc Tc)(hcl:cl.length=n / ev+1)(hck:CksT cl (λ k=>W (k*ev)) Tcc)(SH:1 <= ev /\ ev <= 60)(hj:j.1<5)(hA:AtOk F bp (M.get 0) j)(hE:cM F)(hI:(b,.rows 3 N (js full) 40 (0,0))∈F)(hir:o+xs.length <= N)(h1:1 <= xs.length)(h2:xs.length <= 1000)(hx:∀k,k<xs.length -> full.getD (o+k) dI=xs.getD k dI)(hk:TkOk S2 j xs M)(hW:W (n+1)=(iq (oD S2 j xs) M).cs)(YH:(iq (oD S2 j xs) M).cs.length <= 1000000):Sp Tryz.prog 62 #[vP rp 0,vS b (o*3) xs.length c] (ap [(rp,.lit (Setup.l S3++[vP bp 0,vI (ev:Int),vP gb 0,.slice rA n rc,.slice cA cl.length cc]) 127 (0,0))] [G0,Ts,Tr,Trr,Tc,Tcc]) F (λ u H'=>u=vI 0 /\ RecH rs_ ds_ bp ev rp S S2 W (n+1) (pre++[xs]) H'):=by
 have hl:RowL cL 40 F (some ⟨b,o*3,none⟩) xs.length xs:=.rows b o N full (0,0) _ xs hI hir rfl hx;have hd_:n / ev <= n:=Nat.div_le_self _ _;refine aau Tryz.func62 rfl mn (A:=[(rp,.lit (Setup.l S3++[vP bp 0,vI (ev:Int),vP gb 0,.slice rA n rc,.slice cA cl.length cc]) 127 (0,0))]) (Ts:=[G0,Ts,Tr,Trr,Tc,Tcc]) rfl λ w0=>?_;refine ae 13 [.own 0] λ _=>aaj [] [0] (pB (c:=c) hG (by omega) hj (hA.mono λ x hx=>au hx) (au hE) (au hI) hir (by omega) hx hk) ?_;rintro _ ⟨M1,T2⟩ ⟨rfl,hG3,YM,hb5⟩;dsimp only at hG3 YM hb5;refine ae 13 [] λ _=>aal [8,11] []<|ag [] [0,1,5,2,3,4] [.own 0]<|aae 6 (aaf [] (Hp:=[]) (Tp:=[]) [] [] (kQ (some ⟨b,o*3,none⟩) xs.length c xs _ (hl.up.src oL (by decide)) (by omega)) ?_);rintro _ ⟨A6,c7,T8⟩ ⟨rfl,hc9⟩;dsimp only at hc9;refine aae 7 (aag [] [] λ TG=>?_);refine aae 8 (nM [] yJ rl [(⟨A6,xs.length,c7⟩:Rw)] 3 0 hrl.symm hr (by simp;omega) ?_);rintro A11 c12 TF ⟨Um,Zf⟩;refine ag [] [9,10] []<|aae 11 (aag [] [.own 1] λ _=>?_);refine aad<|ae 3 [] λ _=>aal [] []<|aA [] [0,5,1,6,2,7,3,8,4,9,10] [.own 1,.own 1,.nw] [0 <= (((n+1):Nat):Int) /\ (0:Int)<(ev:Int) /\ (((n+1):Nat):Int) <= 9223372036854775807]<|aad<|ae 1 [] λ _=>aam ((((n+1):Nat):Int) % (ev:Int)=0) 36 (λ SY=>?_) λ SY=>?_
 ·refine ae 3 [] λ _=>aaj [1] [5] (sk S2 S3 rs_ ds_ bp gb mb rp ev (n+1) c12 cc 99020000 A11 cA cl M1 T2 Tc _ hG3 (ar 2) hc (by omega) (by rw[YM];exact YH)) ?_;rintro _ ⟨⟨q17,A18,c19⟩,VA⟩ ⟨rfl,acK⟩;dsimp only at acK;refine wD 1<|ll [7,0,1,2,3,4,5,6]<|my<|ae 7 [] λ _=>ll [6,3,0,1,2,4,5]<|my<|aaq [] [0] [4,5,3,0,2,1] (v:=vI 0) (H':=(ap [(rp,.lit (Setup.l S3++[vP bp 0,vI (ev:Int),vP gb 0,.slice A11 (n+1) c12,.slice A18 (cl.length+1) c19]) 127 (0,0))] [T2,Ts,TF,(Trr++T8),VA,(Tcc++[(q17,.rows 1 M1.cs.length (aE M1.cs) 3 (0,0))])])) ?_;have WA:=hrr.snocC hc9 h1 rfl;have VG:(n+1) % ev=0:=by have h_:=SY;omega
  have WV:=hck.snoc (q:=q17) (cs:=M1.cs) (by show W (cl.length*ev)=_;rw[hcl,O3 VG,hW,YM]);have acH:(cl++[(⟨some ⟨q17,0,none⟩,M1.cs.length,M1.cs.length,kW M1.cs⟩:Ck)]).length=(n+1) / ev+1:=by rw[aaP,hcl,J0 VG];rfl
  exact⟨rfl,by have h_:=RecH.mk (rp:=rp) h3 hs hG3 (by rw[YM,hW]) ⟨hb5.1,by omega⟩ Um (by simp[hrl]) WA acK acH WV;rw[show ((cl++[(⟨some ⟨q17,0,none⟩,M1.cs.length,M1.cs.length,kW M1.cs⟩:Ck)])).length=cl.length+1 by simp] at h_;exact h_⟩
 ·refine ae 8 [] λ _=>ll [4,1,0,2,3,5,6]<|my<|aaq [] [1] [2,3,1,0,4,5] (v:=vI 0) (H':=(ap [(rp,.lit (Setup.l S3++[vP bp 0,vI (ev:Int),vP gb 0,.slice A11 (n+1) c12,.slice cA cl.length cc]) 127 (0,0))] [T2,Ts,TF,(Trr++T8),Tc,Tcc])) ?_;have WA:=hrr.snocC hc9 h1 rfl;have VG:¬ (n+1) % ev=0:=by have h_:=SY;omega
  exact⟨rfl,RecH.mk (rp:=rp) h3 hs hG3 (by rw[YM,hW]) ⟨hb5.1,by omega⟩ Um (by simp[hrl]) WA hc (by rw[hcl,O2 VG]) hck⟩
theorem J3{rs_:List Bx}{ds_:List Dr}{bp ev rp n b o N c:Nat}{S S2:Setup}{W:Nat -> List Int}{pre:List (List Inp)}{j:Nat × Int}{full xs:List Inp}{G0 F:HL}(h:RecH rs_ ds_ bp ev rp S S2 W n pre G0)(hn:n <= 800)(SH:1 <= ev /\ ev <= 60)(hj:j.1<5)(t:Int)(ht:(⟨W n,[],0⟩:MemS).get 0=t)(hA:AtOk F bp t j)(hE:cM F)(hI:(b,.rows 3 N (js full) 40 (0,0))∈F)(hir:o+xs.length <= N)(h1:1 <= xs.length)(h2:xs.length <= 1000)(hx:∀k,k<xs.length -> full.getD (o+k) dI=xs.getD k dI)(hk:TkOk S2 j xs ⟨W n,[],0⟩)(hW:W (n+1)=(iq (oD S2 j xs) ⟨W n,[],0⟩).cs)(YH:(W (n+1)).length <= 1000000):Sp Tryz.prog 62 #[vP rp 0,vS b (o*3) xs.length c] (ap [] [G0]) F (λ u H'=>∃x,H'=ap [] [x] /\ (u=vI 0 /\ RecH rs_ ds_ bp ev rp S S2 W (n+1) (pre++[xs]) x)):=by
 rw[aU];cases h with
 | mk h3 hs hg hcs hb hr hrl hrr hc hcl hck =>
  rename_i gb mb rc cc S3 M rA cA rl cl Tg Ts Tr Trr Tc Tcc;have e:M.cs=(⟨W n,[],0⟩:MemS).cs:=hcs;have key:=J1 S S2 S3 rs_ ds_ bp gb mb rp ev n rc cc b o N c rA cA j full xs rl pre cl W M Tg Ts Tr Trr Tc Tcc F h3 hs hg hb hn hr hrl hrr hc hcl hck SH hj (by rw[po e,ht];exact hA) hE hI hir h1 h2 hx (hk.cs e.symm) (by rw[hW];exact(oS _ e).symm) (by rw[oS _ e,<- hW];exact YH);exact key.tl
theorem J4(S:Setup)(rs:List Bx)(ds:List Dr)(bp ev:Nat)(W:Nat -> List Int)(F:HL)(hS:SetCl F S)(hM:MapIn F S rs ds)(h1:1 <= S.nb)(Sq:S.rn <= 1000000)(Ut:S.dn <= 1000000)(D_:(sizeOf S).toNat <= 1000000)(hv:jL S rs ds=0)(SH:1 <= ev /\ ev <= 60)(hW:W 0=cV S S.nb):Sp Tryz.prog 61 #[Setup.v S,vP bp 0,vI (ev:Int)] (ap [] []) F (λ u H'=>∃x:Nat × Setup × HL,H'=ap [] [x.2.2] /\ (u=.tuple #[vP x.1 0,vI 0] /\ SetEq S x.2.1 /\ RecH rs ds bp ev x.1 S x.2.1 W 0 [] x.2.2)):=by
 have afJ:=fZ S S.nb;refine aau Tryz.func61 rfl mn (A:=[]) (Ts:=[]) rfl λ w0=>?_;refine ae 11 (ow 0 16) λ n1=>aaj (Hp:=[]) (Tp:=[]) [] [] (lA S rs ds bp _ hS.up hM.up h1 Sq Ut D_ hv 99020000 (by decide)) ?_;rintro _ ⟨g2,S3,T4⟩ ⟨rfl,VY,Xj⟩;dsimp only at VY Xj;obtain⟨Zc,UK⟩:=Xj.x;refine ae 23 [] λ _=>aam ((ev:Int)<1) 22 (λ h7=>?_) λ h7=>?_
 ·(exfalso;omega)
 ·refine ae 5 [] λ _=>aam ((ev:Int)>60) 25 (λ h8=>?_) λ h8=>?_
  ·(exfalso;omega)
  ·refine ae 6 (ow 0 16) λ _=>aaj (Hp:=[]) (Tp:=[]) [] [] (Bt S rs ds _ hS.up hM.up h1 Sq Ut) ?_;rintro _ ⟨S9,U10⟩ ⟨rfl,acC,ac1⟩;dsimp only at acC ac1;refine ae 11 [] λ Wp=>aap<|aaj [0] [0] (sk S3 S9 rs ds bp g2 Zc (Wp+0) ev 0 0 0 99020000 none none [] (⟨cV S S.nb,[],0⟩:MemS) T4 [] _ UK (ar 1) (aat _ _) (by decide) (by show (cV S S.nb).length <= _;omega)) ?_;rintro _ ⟨⟨q14,A15,c16⟩,TA⟩ ⟨rfl,acL⟩;dsimp only at acL;refine wD 1<|aap<|aap<|ae 9 [] λ _=>aaq [] [0] [5,4,0,1,3,2] (v:=.tuple #[vP (Wp+0) 0,vI 0]) (H':=(ap [((Wp+0),.lit (Setup.l S9++[vP bp 0,vI (ev:Int),vP g2 0,.slice none 0 0,.slice A15 1 c16]) 127 (0,0))] [T4,U10,([]:HL),(List.nil:HL),TA,[(q14,.rows 1 ((⟨cV S S.nb,[],0⟩:MemS).cs.length) (aE (⟨cV S S.nb,[],0⟩:MemS).cs) 3 (0,0))]])) ?_;have aga:=(CksT.nil (λ k=>W (k*ev))).snoc (q:=q14) (cs:=cV S S.nb) (by show W (([]:List Ck).length*ev)=_;rw[List.length_nil,Nat.zero_mul];exact hW);exact⟨((Wp+0),S3,ap [((Wp+0),.lit (Setup.l S9++[vP bp 0,vI (ev:Int),vP g2 0,.slice none 0 0,.slice A15 1 c16]) 127 (0,0))] [T4,U10,[],[],TA,[]++[(q14,.rows 1 ((⟨cV S S.nb,[],0⟩:MemS).cs.length) (aE (⟨cV S S.nb,[],0⟩:MemS).cs) 3 (0,0))]]),by simp[ap],rfl,VY,RecH.mk (rp:=(Wp+0)) (rl:=[]) acC ac1 UK hW.symm ⟨Int.le_refl 0,Int.le_refl 0⟩ (aat _ _) rfl RwsT.nil acL (by rw[Nat.zero_div];rfl) aga⟩
theorem zh(S:Setup)(rs_:List Bx)(ds_:List Dr)(bp ev n cap:Nat)(J:Nat -> Nat × Int)(A:Option Addr)(rs:List Rw)(xss:List (List Inp))(F:HL)(hS:SetCl F S)(hM:MapIn F S rs_ ds_)(hV:SetV S)(h1:1 <= S.nb)(Sq:S.rn <= 1000000)(Ut:S.dn <= 1000000)(D_:(sizeOf S).toNat <= 1000000)(hv:jL S rs_ ds_=0)(SH:1 <= ev /\ ev <= 60)(hE:cM F)(hr:RowL gD 38 F A n rs)(hw:RwsIn F rs xss)(Ss:n <= 50)(q_:∀i,i<n -> RowOk S.players (xss.getD i []))(S4:∀i,i<n -> (J i).1<5 /\ AtOk F bp (i:Int) (J i)):Sp Tryz.prog 36 #[Setup.v S,vP bp 0,vI (ev:Int),.slice A n cap] (ap [] []) F (λ u H'=>∃x:Nat × Setup × HL,H'=ap [] [x.2.2] /\ (u=vP x.1 0 /\ SetEq S x.2.1 /\ RecH rs_ ds_ bp ev x.1 S x.2.1 (WS S J xss) n xss x.2.2)):=by
 have akt:=hV.pl;refine aau Tryz.func36 rfl mn (A:=[]) (Ts:=[]) rfl λ w0=>?_;refine ae 21 (ow 0 16) λ n1=>aaj (Hp:=[]) (Tp:=[]) [] [] (J4 S rs_ ds_ bp ev (WS S J xss) _ hS.up hM.up h1 Sq Ut D_ hv SH rfl) ?_;rintro _ ⟨r2,S3,T4⟩ ⟨rfl,VY,hr6⟩;dsimp only at VY hr6;refine ae 28 [] λ _=>aao (σ:=Nat × HL) (λ ⟨i_,T_⟩=>⟨[(3,.slice A n cap),(9,vP r2 0),(11,vI (i_:Int))],[((n1+0),.lit (Setup.l S) 31 (0,0))],[T_],i_ <= n /\ RecH rs_ ds_ bp ev r2 S S3 (WS S J xss) i_ (xss.take i_) T_,n-i_⟩) (0,T4) [0] [0] (⟨aaL _,hr6⟩) ?_;rintro⟨i_,T_⟩ ⟨XA,UQ⟩ Za;refine ae 9 [] λ _=>aam ((i_:Int)<(n:Int)) 30 (λ h9=>?_) λ h9=>?_
 ·refine ae 10 [] λ _=>?_;obtain⟨aet,Uj,aaO,agX,adw,Xn,VF,ab8,WN⟩:=hr.at (k:=i_) (by omega);refine aK 34 (congrArg (λ v_=>(.slice v_ n cap:Value)) Xn)<|RN.ro (λ _=>(mc VF mn))<|ai 2 [.ix i_,.rorow 0 (Uj+i_) 0] [(Uj*1+i_*1)=(Uj+i_)*1+0 /\ (Uj+i_)<aaO,(i_:Int)=((i_:Nat):Int) /\ i_<n] λ _=>aK 37 (congrArg (λ v_=>(.slice v_.A v_.n v_.c:Value)) WN) ?_;obtain⟨amr,ajO,amz,ame,ag7,ag0,ac7,ack,abC,aio⟩:=hw.get (k:=i_) (by rw[hr.len];omega);refine aK 37 (congrArg (λ v_:Rw=>Value.slice v_.A v_.n v_.c) ag0)<|aaj [] [0] (J3 (c:=ag7) (j:=J i_) UQ (by omega) SH (S4 i_ (by omega)).1 (i_:Int) (sa hV VY Ss q_ (by omega)).t0 ((S4 i_ (by omega)).2.mono λ x hx=>au hx) (au hE) (au ac7) ack (by have:=(q_ i_ (by omega)).1;have:=hV.pl;omega) (by have:=(q_ i_ (by omega)).1;have:=hV.pl;omega) abC (CZ hV VY Ss q_ (by omega)) (qC VY i_) (by have:=vY (J:=J) hV VY Ss q_ (i:=i_+1) (by omega);omega)) ?_;rintro _ Yo ⟨rfl,ae_⟩;refine ai 12 [.gen,.nw] [bn ((i_:Int)+1)] λ _=>?_;refine Za (i_+1,Yo) [0] [0] ?_
  try dsimp only
  exact⟨⟨by omega,by rw[uy (by rw[<- hw.len,hr.len];omega) []];exact ae_⟩,by omega⟩
 ·refine ae 12 [] λ _=>aaq [] [] [0] (v:=vP r2 0) (H':=(ap [] [T_])) ?_;obtain rfl:i_=n:=by omega
  exact⟨(r2,S3,T_),rfl,rfl,VY,by rw[List.take_of_length_le (by rw[<- hw.len,hr.len];exact aaK _)] at UQ;exact UQ⟩
theorem SetEq.val{S S':Setup}(h:SetEq S S')(rs:List Bx)(ds:List Dr):jL S' rs ds=jL S rs ds:=by
 obtain⟨e1,e2,e3,e4,e5,e6,e7,e8,e9,e10,e11,e12⟩:=h.nums;have c1:(∀k,k<S'.nb -> kr (S'.body k).sh)↔(∀k,k<S.nb -> kr (S.body k).sh):=by
  rw[e2];refine forall_congr' λ k=>forall_congr' λ hk=>?_;obtain⟨A,c,e⟩:=h.bod k hk;rw[e];exact Iff.rfl
 have c2:sL S' rs ds↔sL S rs ds:=by unfold sL jz lz;rw[e1,e2,e3,e4,e5,e6,e7,e8,e9,e10,e11,e12]
 have c3:(∀k,k<S'.nb -> fy (S'.body k) S'.box)↔(∀k,k<S.nb -> fy (S.body k) S.box):=by
  rw[e2,e3];refine forall_congr' λ k=>forall_congr' λ hk=>?_;obtain⟨A,c,e⟩:=h.bod k hk;rw[e];exact Iff.rfl
 simp only[jL,c1,c2,c3]
theorem SetEq.trans2{S S1 S2:Setup}(h:SetEq S S1)(h2:SetEq S1 S2):SetEq S S2:=by
 obtain⟨e1,e2,e3,e4,e5,e6,e7,e8,e9,e10,e11,e12⟩:=h.nums;obtain⟨f1,f2,f3,f4,f5,f6,f7,f8,f9,f10,f11,f12⟩:=h2.nums;refine⟨⟨f1.trans e1,f2.trans e2,f3.trans e3,f4.trans e4,f5.trans e5,f6.trans e6,f7.trans e7,f8.trans e8,f9.trans e9,f10.trans e10,f11.trans e11,f12.trans e12⟩,λ k hk=>?_,h2.whole.1,by rw[h2.whole.2];exact e2⟩;obtain⟨A,c,e⟩:=h.bod k hk;obtain⟨A2,c2,e2'⟩:=h2.bod k (by rw[e2];exact hk);exact⟨A2,c2,by rw[e2',e];rfl⟩
theorem mj(cs:List Int)(M:MemS):∀i,(lc cs M i).base=M.base
 | 0=>rfl
 | i+1=>by
  rw[lc];split
  ·exact mj cs M i
  ·unfold MemS.set;split
   ·exact mj cs M i
   ·exact mj cs M i
section
variable {S S1:Setup} {rs_:List Bx} {ds_:List Dr} {bp gb mb n cap k t:Nat} {M:MemS} {G0 F:HL}
theorem zi{q:Nat}{M1:MemS}(hG:GameX rs_ ds_ bp gb mb S1 M (k+n) G0)(hq:(q,.rows 1 M1.cs.length (aE M1.cs) 3 (0,0))∈F)(hn:M1.cs.length=n)(hl:M.cs.length=n)(U9:48 <= n)(hT:TE2 S1 (t:Int) M1)(ht:t <= 6000) :
  Sp Tryz.prog 64 #[vP gb 0,vS q 0 M1.cs.length cap] (ap [] [G0]) F (λ u H'=>∃x:MemS × HL,H'=ap [] [x.2] /\ (u=vI 0 /\ x.1.cs=M1.cs /\ x.1.base=M.base /\ GameX rs_ ds_ bp gb mb S1 x.1 k x.2)):=by
 have hg:∀i:Nat,i<n -> M1.get (i:Int)=M1.cs.getD i 0:=λ i hi=>by
  unfold MemS.get;rw[if_pos (by omega),Int.toNat_natCast]
 have hz:∀i:Nat,1 <= i -> i <= 10 -> M1.cs.getD i 0=0:=λ i ha hb=>by rw[<- hg i (by omega)];exact hT.z _ (by omega) (by omega)
 have h0:M1.cs.getD 0 0=(t:Int):=by rw[<- hg 0 (by omega)];exact hT.t0
 have hb:fS M1.cs:=⟨⟨hz 1 (by omega) (by omega),hz 2 (by omega) (by omega),hz 3 (by omega) (by omega),hz 4 (by omega) (by omega),hz 5 (by omega) (by omega),hz 6 (by omega) (by omega),hz 7 (by omega) (by omega),hz 8 (by omega) (by omega),hz 9 (by omega) (by omega),hz 10 (by omega) (by omega)⟩,by omega,by omega⟩;have hk:k+n=k+M1.cs.length:=by omega
 rw[hk] at hG;cases hG with
 | mk T U hM hU =>
  rw[aU];refine(xM S1 bp gb mb M1.cs q M1.cs.length M1.cs.length cap M k T U F hM hq (aaK _) (by omega)).mono λ u H' h=>?_;obtain⟨x,rfl,h⟩:=h;rcases h with ⟨_,h3,h4⟩|⟨h3,_⟩
  ·refine⟨(lc M1.cs M M1.cs.length,ap [(gb,.lit (dD S1 bp mb) 121 (0,0))] [x,U]),(aU _).symm,h3,?_,mj _ _ _,.mk x U h4 hU⟩;show (lc M1.cs M M1.cs.length).cs=M1.cs;rw[HG (by omega) (aaK _),List.take_length]
  ·exact absurd ⟨by omega,hb⟩ h3
end
abbrev QV(x:Rw):Array Value:=#[.slice x.A x.n x.c]
def Km(rl:List Rw)(f l:Nat):List Rw:=(List.range (l-f)).map λ i=>rl.getD (f+i) gD.dflt
theorem qD(rl:List Rw)(f l:Nat):(Km rl f l).length=l-f:=by simp[Km]
theorem C8{rl:List Rw}{f l i:Nat}(h:i<l-f):(Km rl f l)[i]?=some (rl.getD (f+i) gD.dflt):=by simp[Km,h]
theorem wg{rl:List Rw}{f l i:Nat}{x:Rw}(e:(Km rl f l)[i]?=some x):i<l-f /\ x=rl.getD (f+i) gD.dflt:=by
 have h1:i<l-f:=by have:=(List.getElem?_eq_some_iff.1 e).1;rwa [qD] at this
 rw[C8 h1] at e;exact⟨h1,(Option.some.inj e).symm⟩
theorem J5(S3:Setup)(bp ev Wi rp n rc cc f l q1 q2 q3 lp:Nat)(rA cA:Option Addr)(rl:List Rw)(cl:List Ck)(X F:HL)(J:Nat -> HL -> Prop)(Jx:HL -> Prop)(T0:HL)(Up:(q1,.lit [vI (f:Int)] 3 (0,0))∈F)(R_:(q2,.lit [vI (l:Int)] 3 (0,0))∈F)(Uo:(q3,.lit [vP rp 0] 73 (0,0))∈F)(UP:(rp,.lit (Setup.l S3++[vP bp 0,vI (ev:Int),vP Wi 0,.slice rA n rc,.slice cA cl.length cc]) 127 (0,0))∈F)(hr:RowL gD 38 F rA n rl)(Sx:f <= l /\ l <= n /\ n <= 1000000)(hY:∀i x H Y,(Km rl f l)[i]?=some x -> J i H -> YL Tryz.prog lp (QV x) H (Y++(X++F)) (λ b H'=>(b=true /\ J (i+1) H') \/ (b=false /\ Jx H')))(UH:J 0 T0):Sp Tryz.prog 93 #[.func (.yield lp) #[] #[],vP q1 0,vP q2 0,vP q3 0] (ap [] [T0]) (X++F) (λ _ H'=>J (Km rl f l).length H' \/ Jx H'):=by
 refine aau Tryz.func93 rfl (mc (aay _ Up) (mc (aay _ R_) (mc (aay _ Uo) (mc (aay _ UP) mn)))) (A:=[]) (Ts:=[T0]) rfl λ w0=>?_;refine ae 7 [.ro 0] λ _=>aK 5 (congrArg (λ v_=>(vI v_:Value)) (show (f:Int)=((f+0:Nat):Int) by omega))<|aao (σ:=Nat × HL) (λ ⟨i,T_⟩=>⟨[(0,.func (.yield lp) #[] #[]),(2,vP q2 0),(3,vP q3 0),(5,vI ((f+i:Nat):Int))],[],[T_],i <= l-f /\ J i T_,l-f-i⟩) (0,T0) [] [0] (⟨aaL _,UH⟩) ?_;rintro⟨i,T_⟩ ⟨XA,Sy⟩ S_;refine ae 8 [.ro 1] λ _=>aam (((f+i:Nat):Int)<(l:Int)) 9 (λ h3=>?_) λ h3=>?_
 ·refine ae 13 [.ro 2,.ro 3] λ _=>?_;obtain⟨qx4,Uz,Nx4,fx4,adu,V5,VT,ab7,WM⟩:=(hr.up (X:=X)).at (k:=(f+i)) (by omega);refine aK 16 (congrArg (λ v_=>(.slice v_ n rc:Value)) V5)<|RN.ro (λ _=>(mc (aay _ Up) (mc (aay _ R_) (mc (aay _ Uo) (mc (aay _ UP) (mc VT mn))))))<|ai 2 [.ix (f+i),.rorow 4 (Uz+(f+i)) 0] [(Uz*1+(f+i)*1)=(Uz+(f+i))*1+0 /\ (Uz+(f+i))<Nx4,((f+i:Nat):Int)=(((f+i):Nat):Int) /\ (f+i)<n] λ _=>aK 19 (congrArg (λ v_=>(.slice v_.A v_.n v_.c:Value)) WM)<|aas 0 (hY i (rl.getD (f+i) gD.dflt) _ _ (C8 (by omega)) Sy) ?_;rintro b_ T5 (⟨rfl,Z_⟩|⟨rfl,Z_⟩)
  ·refine ai 12 [.gen,.nw] [bn (((f+i:Nat):Int)+1)] λ _=>aK 5 (congrArg (λ v_=>(vI v_:Value)) (show ((f+i:Nat):Int)+1=((f+(i+1):Nat):Int) by omega)) ?_;refine S_ (i+1,T5) [] [0] ?_
   try dsimp only
   exact⟨⟨by omega,Z_⟩,by omega⟩
  ·refine ae 4 [] λ _=>aaq [] [] [0] (v:=.tuple #[]) (H':=(ap [] [T5])) ?_;rw[aU];exact .inr Z_
 ·refine ae 5 [] λ _=>aaq [] [] [0] (v:=.tuple #[]) (H':=(ap [] [T_])) ?_;rw[aU];obtain rfl:i=l-f:=by omega
  exact .inl (by rw[qD];exact Sy)
theorem C9(S3:Setup)(bp ev Wi rp n rc cc f l q1 q2 q3:Nat)(rA cA:Option Addr)(rl:List Rw)(cl:List Ck)(F:HL)(Up:(q1,.lit [vI (f:Int)] 3 (0,0))∈F)(R_:(q2,.lit [vI (l:Int)] 3 (0,0))∈F)(Uo:(q3,.lit [vP rp 0] 73 (0,0))∈F)(UP:(rp,.lit (Setup.l S3++[vP bp 0,vI (ev:Int),vP Wi 0,.slice rA n rc,.slice cA cl.length cc]) 127 (0,0))∈F)(hr:RowL gD 38 F rA n rl)(Sx:f <= l /\ l <= n /\ n <= 1000000):It Tryz.prog 93 #[vP q1 0,vP q2 0,vP q3 0] F QV (Km rl f l):=by
 intro X lp J Jx H0 hY h0;have key:=J5 S3 bp ev Wi rp n rc cc f l q1 q2 q3 lp rA cA rl cl X F J Jx H0 Up R_ Uo UP hr Sx hY h0;rw[aU] at key;exact key
theorem zj(f l:Int)(rp:Nat)(F:HL):Sp Tryz.prog 65 #[vP rp 0,vI f,vI l] (ap [] []) F (λ u H'=>∃m:Nat,H'=ap [((m+2),.lit [vI l] 3 (0,0)),((m+1),.lit [vI f] 3 (0,0)),((m+0),.lit [vP rp 0] 73 (0,0))] [] /\ u=.func (.func 93) #[] #[vP (m+1) 0,vP (m+2) 0,vP (m+0) 0]):=by
 refine aau Tryz.func65 rfl mn (A:=[]) (Ts:=[]) rfl λ w0=>?_;refine ae 14 [] λ n1=>aaq [] [0,1,2] [] (v:=.func (.func 93) #[] #[vP (n1+1) 0,vP (n1+2) 0,vP (n1+0) 0]) (H':=(ap [((n1+2),.lit [vI l] 3 (0,0)),((n1+1),.lit [vI f] 3 (0,0)),((n1+0),.lit [vP rp 0] 73 (0,0))] [])) ?_;exact⟨_,rfl,rfl⟩
end Go.Proofs.YtdppjkjbghbnjaaGreatDoor
