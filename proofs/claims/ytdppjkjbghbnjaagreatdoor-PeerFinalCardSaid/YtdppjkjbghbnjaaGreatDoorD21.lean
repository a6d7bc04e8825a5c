import Derived.Test.YtdppjkjbghbnjaaGreatDoorRows
import Derived.Test.YtdppjkjbghbnjaaGreatDoorChecked
import Derived.ProofKit
import Derived.OpenShut
import Derived.Carry
import Derived.Lay
import Derived.LaidHandle
import Derived.ChangeSlices
import Derived.Lib.LaidTab
import Derived.MakeChecks
import Derived.Lib.SmallJoins
import Derived.Test.YtdppjkjbghbnjaaGreatDoorD20
set_option maxHeartbeats 4000000
set_option maxRecDepth 100000
set_option linter.all false
namespace Go.Proofs.YtdppjkjbghbnjaaGreatDoor
open IntKind
open Go.RowKit
theorem vR{rs_:List Bx}{ds_:List Dr}{bp pp pl me w:Nat}{S:Setup}{J:Nat -> Nat × Int}{P:PS (List Inp)}{kv:List (Int × Value × Nat)}{c sn:Nat}{X:Option (Rw × List Inp)}{gb mb rb lb cl rn rc ck un uc en ec rbk sg smb:Nat}{S2 S3:Setup}{rA uA eA:Option Addr}{rl ul el:List Rw}{N:MemS}{Tg Tn Tr Tu Te Tp Tq Ts F:HL}(q1_:P.rows.length=rn)(q2_:P.ck=ck)(q3_:P.used.length=un)(q4_:P.effs.length=en)(q5_:P.rb=rbk)(hse_:SetEq S S2)(hg:GameX rs_ ds_ bp gb mb S2 P.M 0 Tg)(hb:0 <= P.M.base /\ P.M.base+(P.M.lg.length:Int) <= 20000*(c:Int))(hn:RingH rb mb w P.a P.ms Tn)(hkv:LocIn kv)(hr:SlIs jH 38 rl rA rc Tr)(hrl:rl.length=rn)(hrr:RwsT rl P.rows Tp)(hu:SlX jH 38 ul uA uc Tu)(hul:ul.length=un)(huu:RwsT ul P.used Tp)(he:SlIs mt 58 el eA ec Te)(hel:el.length=en)(hee:EfsT el P.effs Tq)(hse3_:SetEq S S3)(hs:GameX rs_ ds_ bp sg smb S3 N 99020000 Ts)(hsc:N.cs=WS S J P.rows sn)(hsn:sn <= rn)(hsb:0 <= N.base /\ N.base <= 1000000*(sn:Int))(hpl:S.players=(pl:Int))(hX:∀p xs,X=some (p,xs) -> ∀F:HL,(∀y∈Tp,y∈F) -> RwIn F xs p)(n cc:Nat)(A:Option Addr)(xs:List Inp)(hl:RowL cV 40 F A n xs)(hn9:n=pl)(Sd:n=xs.length)(TK:1 <= n)(hn2:n <= 1000)(g_:∀k,k<n -> fh (xs.getD k dI))(RV:rn <= 5000):Sp Tryz.prog 16 #[vP pp 0,vI (rn:Int),.slice A n cc] (ap [(pp,.lit [vI (pl:Int),vI (me:Int),vI (w:Int),vP gb 0,vP rb 0,.map (some lb),.slice rA rn rc,vI (ck:Int),.slice uA un uc,.slice eA en ec,vI (rbk:Int),vP sg 0] 102 (0,0)),(lb,.obj (bF kv cl))] [Tg,Tn,Tr,Tu,Te,Tp,Tq,Ts]) F (λ u H'=>u=vI 0 /\ PeerR rs_ ds_ bp pp pl me w S J (fY P xs) (nj kv (rn:Int)) c sn none H'):=by
 refine aat Tryz.func16 rfl mn (A:=[(pp,.lit [vI (pl:Int),vI (me:Int),vI (w:Int),vP gb 0,vP rb 0,.map (some lb),.slice rA rn rc,vI (ck:Int),.slice uA un uc,.slice eA en ec,vI (rbk:Int),vP sg 0] 102 (0,0)),(lb,.obj (bF kv cl))]) (Ts:=[Tg,Tn,Tr,Tu,Te,Tp,Tq,Ts]) rfl λ w0=>?_;refine ae 17 [.own 0] λ _=>aam ((n:Int)=(pl:Int)) 15 (λ h1=>?_) λ h1=>?_
 ·refine ae 12 [] λ _=>aan (σ:=Nat) (λ k_=>⟨[(0,vP pp 0),(1,vI (rn:Int)),(2,.slice A n cc),(16,.slice A n cc),(17,vI (n:Int)),(18,vI (k_:Int))],[(pp,.lit [vI (pl:Int),vI (me:Int),vI (w:Int),vP gb 0,vP rb 0,.map (some lb),.slice rA rn rc,vI (ck:Int),.slice uA un uc,.slice eA en ec,vI (rbk:Int),vP sg 0] 102 (0,0)),(lb,.obj (bF kv cl))],[Tg,Tn,Tr,Tu,Te,Tp,Tq,Ts],k_ <= n,n-k_⟩) 0 [0,1] [0,1,2,3,4,5,6,7] (aa9 _) ?_;rintro k_ VQ RF;refine ae 6 [] λ _=>aal ((k_:Int)<(n:Int)) 19 (λ h4=>?_) λ h4=>?_
  ·refine ae 7 [] λ _=>?_;obtain⟨qx5,Rn,Wx,fx5,Zv,Ti,TJ,YC,Ur⟩:=hl.at (k:=k_) (by omega);refine aN 16 (congrArg (λ v_=>(.slice v_ n cc:Value)) Ti)<|RN.ro (λ _=>(mc TJ mn))<|aj 2 [.ix k_,.rorow 0 (Rn+k_) 0,.rorow 0 (Rn+k_) 1,.rorow 0 (Rn+k_) 2] [((Rn*3+k_*3)+2)=(Rn+k_)*3+2 /\ (Rn+k_)<Wx,((Rn*3+k_*3)+1)=(Rn+k_)*3+1 /\ (Rn+k_)<Wx,(Rn*3+k_*3)=(Rn+k_)*3+0 /\ (Rn+k_)<Wx,(k_:Int)=((k_:Nat):Int) /\ k_<n] λ _=>aN 21 (congrArg (λ v_=>(.agg #[vI v_.dx,vI v_.dy,vI v_.act]:Value)) Ur)<|ae 7 (ow 0 6) λ n6=>aah (yO (xs.getD k_ dI) _ (g_ k_ (by omega)))<|aj 11 [.gen,.nw] [bx ((k_:Int)+1)] λ _=>aN 16 (congrArg (λ v_=>(.slice v_ n cc:Value)) Ti.symm) ?_;refine RF (k_+1) [1,2] [0,1,2,3,4,5,6,7] ?_
   try dsimp only
   exact⟨by omega,by omega⟩
  ·refine ae 11 [] λ _=>aah (gA pp gb rb lb sg pl me w rn rc ck un uc en ec rbk rA uA eA _ (av 0))<|ae 3 [] λ _=>db 29 (nt (acr (rfl:(rn:Int)=(rn:Int))))<|ae 10 [] λ _=>aal ((rn:Int) >= 6000) 31 (λ h7=>?_) λ h7=>?_
   ·(exfalso;omega)
   ·refine ae 4 [] λ _=>aak [8,11] []<|ag [] [0,1,5,2,3,4] [.own 0]<|aae 6 (aaf [] (Hp:=[]) (Tp:=[]) [] [] (pP A n cc xs _ (hl.up.src qD (by decide)) (by omega)) ?_);rintro _ ⟨A8,c9,SX⟩ ⟨rfl,Xg⟩;dsimp only at Xg;refine aae 7 (aag [] [] λ ZI=>?_);refine aae 8 (uB [] IE rl [(⟨A8,n,c9⟩:Rw)] 3 0 hrl.symm hr (by simp;omega) ?_);rintro A13 c14 Sy ⟨Ul,ajn⟩;refine ag [] [9,10] []<|aae 11 (aag [] [.own 1] λ _=>?_);refine aad<|ae 8 [.own 1] λ _=>Oc 2 (kv:=kv) (cl:=cl) (k:=(rn:Int))<|ae 7 [] λ _=>sS [6,1,0,2,3,4,5,7,8]<|wo<|aap [] [1,2] [2,3,1,4,5,0,6,7] (v:=vI 0) (H':=(ap [(pp,.lit [vI (pl:Int),vI (me:Int),vI (w:Int),vP gb 0,vP rb 0,.map (some lb),.slice A13 (rn+1) c14,vI (ck:Int),.slice uA un uc,.slice eA en ec,vI (rbk:Int),vP sg 0] 102 (0,0)),(lb,.obj (bF (nj kv (rn:Int)) cl))] [Tg,Tn,Sy,Tu,Te,(Tp++SX),Tq,Ts])) ?_;exact⟨rfl,PeerR.mk (show (P.rows++[xs]).length=rn+1 by rw[abi,q1_];rfl) q2_ q3_ q4_ q5_ hse_ hg hb hn (hkv.del _) Ul (by simp[hrl]) (hrr.snocD Xg (by omega) Sd) hu hul (huu.more _) he hel hee hse3_ hs (hsc.trans (CJ xs (by rw[q1_];exact hsn)).symm) (by omega) hsb hpl (λ _ _ h_=>by cases h_)⟩
 ·(exfalso;omega)
theorem ol{rs_:List Bx}{ds_:List Dr}{bp pp pl me w:Nat}{S:Setup}{J:Nat -> Nat × Int}{P:PS (List Inp)}{kv:List (Int × Value × Nat)}{c sn:Nat}{X:Option (Rw × List Inp)}{G F:HL}(h:PeerR rs_ ds_ bp pp pl me w S J P kv c sn X G){n cc:Nat}{A:Option Addr}{xs:List Inp}(hl:RowL cV 40 F A n xs)(hn9:n=pl)(Sd:n=xs.length)(TK:1 <= n)(hn2:n <= 1000)(g_:∀k,k<n -> fh (xs.getD k dI))(RV:P.rows.length <= 5000):Sp Tryz.prog 16 #[vP pp 0,vI (P.rows.length:Int),.slice A n cc] (ap [] [G]) F (λ u H'=>∃T9,H'=ap [] [T9] /\ ((λ u H'=>u=vI 0 /\ PeerR rs_ ds_ bp pp pl me w S J (fY P xs) (nj kv (P.rows.length:Int)) c sn none H') u T9)):=by
 rw[bj];cases h with
 | mk q1_ q2_ q3_ q4_ q5_ hse_ hg hb hn hkv hr hrl hrr hu hul huu he hel hee hse3_ hs hsc hsn hsb hpl hX =>
  rw[q1_];exact(vR q1_ q2_ q3_ q4_ q5_ hse_ hg hb hn hkv hr hrl hrr hu hul huu he hel hee hse3_ hs hsc hsn hsb hpl hX n cc A xs hl hn9 Sd TK hn2 g_ (by omega)).tl
structure PeerI(S:Setup)(J:Nat -> Nat × Int)(w:Nat)(TR:Nat -> List Inp)(P:PS (List Inp))(V:List (List Inp))(m k:Nat):Prop where
 inv:PInv (gP S J) (br S S.nb) w P V m
 rows:P.rows=(List.range P.rows.length).map TR
 ok:∀r∈V,RowOk S.players r
 lim:P.rows.length <= k /\ P.rb <= k
def LK(tt:Int)(w vl rl rb UQ Z8 Yc m2:Nat)(n e:Int):Prop :=
 Z8=rl /\ ((n=0 /\ e=18 /\ UQ=vl /\ Yc=rb /\ (tt<(vl:Int) \/ tt>(rl:Int)+(w:Int))) \/ (e=0 /\ m2=min UQ rl /\ (UQ:Int)=tt /\ vl <= UQ /\ UQ <= rl+w /\ (UQ:Int)-(vl:Int) <= n /\ n <= (UQ:Int)-(vl:Int)+(w:Int) /\ ((n>(UQ:Int)-(vl:Int) /\ Yc=rb+1) \/ (n=(UQ:Int)-(vl:Int) /\ Yc=rb))))
section
variable {S:Setup} {J:Nat -> Nat × Int} {w:Nat} {TR:Nat -> List Inp} {P:PS (List Inp)} {V:List (List Inp)} {m k:Nat}
theorem yT(S:Setup)(J:Nat -> Nat × Int)(w:Nat)(TR:Nat -> List Inp)(k:Nat):PeerI S J w TR ⟨⟨br S S.nb,[],0⟩,0,[],[],0,[],[],0⟩ [] 0 k :=
 ⟨rQ ⟨br S S.nb,[],0⟩ 0,rfl,λ r hr=>(by cases hr),⟨aa9 _,aa9 _⟩⟩
theorem PeerI.more(h:PeerI S J w TR P V m k){k':Nat}(hk:k <= k'):PeerI S J w TR P V m k':=⟨h.inv,h.rows,h.ok,⟨Nat.le_trans h.lim.1 hk,Nat.le_trans h.lim.2 hk⟩⟩
theorem PeerI.rowsOk(h:PeerI S J w TR P V m k)(hT:∀t,RowOk S.players (TR t)):∀r∈P.rows,RowOk S.players r:=λ r hr=>by
 rw[h.rows] at hr;obtain⟨t,_,rfl⟩:=List.mem_map.1 hr;exact hT t
theorem PeerI.conf(h:PeerI S J w TR P V m k):PeerI S J w TR (fY P (TR P.rows.length)) V m (k+1):=by
 have hl:=h.lim;refine⟨h.inv.conf _,?_,h.ok,⟨by show (P.rows++[_]).length <= _;rw[abi,List.length_singleton];omega,by show P.rb <= _;omega⟩⟩;show P.rows++[_]=(List.range (P.rows++[_]).length).map TR;rw[abi,List.length_singleton,List.range_succ,List.map_append,<- h.rows];rfl
theorem PeerI.vlen(h:PeerI S J w TR P V m k):V.length <= P.rows.length+w:=h.inv.win
theorem PeerI.t0(h:PeerI S J w TR P V m k)(hV:SetV S)(hn:V.length <= 50):P.M.get 0=(V.length:Int):=(h.inv.te hV (gz S) hn h.ok).t0
theorem PeerI.adv(h:PeerI S J w TR P V m k)(hT:∀t,RowOk S.players (TR t))(hw:1 <= w){T:Nat}(h1:V.length <= T)(hse_:T <= P.rows.length+w)(rf:Nat -> List Inp)(hrf:∀t,RowOk S.players (rf t))(WX:∀t,t<P.rows.length -> P.rows[t]?=some (rf t)) :
  PeerI S J w TR (rR (gP S J) w P V.length T rf) (yD P V T rf) (min T P.rows.length) (k+1) /\ (yD P V T rf).length=T /\ LK (T:Int) w V.length P.rows.length P.rb (yD P V T rf).length (rR (gP S J) w P V.length T rf).rows.length (rR (gP S J) w P V.length T rf).rb (min T P.rows.length) ((T-eD P V.length:Nat):Int) 0:=by
 obtain⟨a1,a2,a3,a4⟩:=h.inv.adv hw h1 hse_ rf WX;obtain⟨k1,k2,k3,k4,k5⟩:=h.inv.adv1;have hf:=h.inv.far;have hl:=h.lim;refine⟨⟨a1,by rw[a3];exact h.rows,λ r hr=>?_,⟨by rw[a3];omega,by rw[a4];split <;> omega⟩⟩,a2,by rw[a3],.inr ⟨rfl,by rw[a2],by rw[a2],by omega,by omega,by omega,by omega,?_⟩⟩
 ·unfold yD at hr;rcases List.mem_append.1 hr with hr|hr
  ·exact h.ok r (List.mem_of_mem_take hr)
  ·obtain⟨t,rfl⟩:=pj _ _ hr;exact hrf t
 ·rw[a2,a4]
  by_cases hx:eD P V.length<V.length
  ·rw[if_pos hx];exact .inl ⟨by omega,rfl⟩
  ·rw[if_neg hx];exact .inr ⟨by omega,rfl⟩
end
section
variable {rs_:List Bx} {ds_:List Dr} {bp pp pl me w:Nat} {S:Setup} {J:Nat -> Nat × Int} {P:PS (List Inp)} {kv:List (Int × Value × Nat)} {c sn:Nat} {TR:Nat -> List Inp} {V:List (List Inp)} {m k:Nat} {G F:HL}
theorem PeerR.loc_ok{X:Option (Rw × List Inp)}(h:PeerR rs_ ds_ bp pp pl me w S J P kv c sn X G){t:Int}{x:Inp}(e:gV kv t=some x):fh x:=by
 cases h with
 | mk q1_ q2_ q3_ q4_ q5_ hse_ hg hb hn hkv hr hrl hrr hu hul huu he hel hee hse3_ hs hsc hsn hsb hpl hX=>exact hkv.ok e
theorem PeerR.plE{X:Option (Rw × List Inp)}(h:PeerR rs_ ds_ bp pp pl me w S J P kv c sn X G):S.players=(pl:Int):=by
 cases h with
 | mk q1_ q2_ q3_ q4_ q5_ hse_ hg hb hn hkv hr hrl hrr hu hul huu he hel hee hse3_ hs hsc hsn hsb hpl hX=>exact hpl
theorem P8(h:PeerR rs_ ds_ bp pp pl me w S J P kv c sn none G)(hI:PeerI S J w TR P V m k)(hT:∀t,RowOk S.players (TR t))(hV:SetV S)(S9:me<pl)(hw:1 <= w /\ w <= 12)(hk:k <= 36)(hc:c <= 50*k)(RH:∀i,i <= 50 -> (J i).1<5 /\ AtOk F bp (i:Int) (J i))(hE:cG F){tt:Int}:Sp Tryz.prog 17 #[vP pp 0,vI tt] (ap [] [G]) F (λ u H'=>∃y:(Int × Int × PS (List Inp) × List (Int × Value × Nat) × Nat × List (List Inp) × Nat) × HL,H'=ap [] [y.2] /\ (u=.tuple #[vI y.1.1,vI y.1.2.1] /\ PeerR rs_ ds_ bp pp pl me w S J y.1.2.2.1 y.1.2.2.2.1 y.1.2.2.2.2.1 sn none y.2 /\ PeerI S J w TR y.1.2.2.1 y.1.2.2.2.2.2.1 y.1.2.2.2.2.2.2 (k+1) /\ y.1.2.2.2.2.1 <= 50*(k+1) /\ LK tt w V.length P.rows.length P.rb y.1.2.2.2.2.2.1.length y.1.2.2.1.rows.length y.1.2.2.1.rb y.1.2.2.2.2.2.2 y.1.1 y.1.2.1)):=by
 have hl:=hI.lim;have hv:=hI.vlen;have hpl:=h.plE;have hr:=hI.rowsOk hT
 by_cases hb:tt<(V.length:Int) \/ tt>(P.rows.length:Int)+(w:Int)
 ·refine(yR h hI.inv hV hI.ok hr S9 hw (by omega) (by omega) (by omega) (by omega) RH hE tt hb).mono λ u H' q=>?_;obtain⟨x,rfl,h1,hse_⟩:=q;exact⟨((0,18,P,kv,c,V,m),x),rfl,h1,hse_,hI.more (Nat.le_succ _),by show c <= _;omega,rfl,.inl ⟨rfl,rfl,rfl,rfl,hb⟩⟩
 ·obtain⟨T,rfl⟩:∃T:Nat,tt=(T:Int):=⟨tt.toNat,by omega⟩;refine(vQ h hI.inv hV hI.ok hr S9 hw (by omega) (by omega) (by omega) (by omega) RH hE T (by omega) (by omega) (by omega)).mono λ u H' q=>?_;obtain⟨x,rfl,h1,hse_⟩:=q;have ha:=hI.adv hT hw.1 (T:=T) (by omega) (by omega) (f5 pl me P.rows (gV kv)) (λ t=>by rw[hpl];exact vL (by rw[<- hpl];exact hr) (λ t x e=>h.loc_ok e) t) (λ t ht=>pd ht);exact⟨((((T-eD P V.length:Nat):Int),0,rR (gP S J) w P V.length T (f5 pl me P.rows (gV kv)),kv,c+(T-eD P V.length),yD P V T (f5 pl me P.rows (gV kv)),min T P.rows.length),x),rfl,h1,hse_,ha.1,by show c+_ <= _;omega,ha.2.2⟩
theorem Jz(h:PeerR rs_ ds_ bp pp pl me w S J P kv c sn none G)(hI:PeerI S J w TR P V m k)(hT:∀t,RowOk S.players (TR t))(hV:SetV S)(hk:k <= 36)(hc:c <= 50*k){n cc:Nat}{A:Option Addr}{xs:List Inp}(hl:RowL cV 40 F A n xs)(Yn:xs=TR P.rows.length){t:Int}(ht:t=(P.rows.length:Int)):Sp Tryz.prog 16 #[vP pp 0,vI t,.slice A n cc] (ap [] [G]) F (λ u H'=>∃x,H'=ap [] [x] /\ (u=vI 0 /\ PeerR rs_ ds_ bp pp pl me w S J (fY P (TR P.rows.length)) (nj kv (P.rows.length:Int)) c sn none x /\ PeerI S J w TR (fY P (TR P.rows.length)) V m (k+1))):=by
 subst Yn;subst ht;have hli:=hI.lim;have hpl:=h.plE;have hp1:=hV.pl;have hr:=hT P.rows.length;have hn:=hl.len;have VJ:=hr.1;refine(ol (cc:=cc) h hl (by omega) hn.symm (by omega) (by omega) (λ i hi=>hr.2 i (by omega)) (by omega)).mono λ u H' q=>?_;obtain⟨x,rfl,h1,hse_⟩:=q;exact⟨x,rfl,h1,hse_,hI.conf⟩
end
theorem pk(S:Setup)(A:Option Addr)(n cap:Nat)(xs:List Int)(t:Int)(F:HL)(hl:ArgL F A n xs)(hn:n <= 9223372036854775807)(hp:0 <= S.players /\ S.players <= 1000000)(ht:0 <= t /\ t <= 1000000):Sp Tryz.prog 53 #[Setup.v S,.slice A n cap,vI t] (ap [] []) F (λ u H'=>∃x:Option Addr × Nat × HL,H'=ap [] [x.2.2] /\ (u=.slice x.1 S.players.toNat x.2.1 /\ SlIs cV 40 (rowL S.players xs (t / 2) S.players.toNat) x.1 x.2.1 x.2.2 /\ bB x.1)):=by
 refine aat Tryz.func53 rfl mn (A:=[]) (Ts:=[]) rfl λ w0=>?_;refine aj 12 (ow 0 16++[.nw]) [0 <= t /\ (0:Int)<2 /\ t <= 9223372036854775807] λ n1=>aai (Hp:=[]) (Tp:=[]) [] [] (KE S A n cap xs (t / 2) _ hl.up hn (by omega) (by omega)) ?_;rintro _ ⟨A2,c3,T4⟩ ⟨rfl,SD,hz6⟩;dsimp only at SD hz6;refine ae 3 [] λ _=>aap [] [] [0] (v:=.slice A2 S.players.toNat c3) (H':=(ap [] [T4])) ?_;exact⟨(A2,c3,T4),rfl,rfl,SD,hz6⟩
def aB(pl:Int)(xs:List Int)(n:Nat):List (List Inp):=(List.range n).map λ t:Nat=>rowL pl xs ((t:Int) / 2) pl.toNat
theorem yU(pl:Int)(xs:List Int)(n:Nat):aB pl xs (n+1)=aB pl xs n++[rowL pl xs ((n:Int) / 2) pl.toNat]:=by simp[aB,List.range_succ]
theorem Bd{pl:Int}{xs:List Int}{n k:Nat}(h:k<n):(aB pl xs n).getD k []=rowL pl xs ((k:Int) / 2) pl.toNat:=by simp[aB,h]
theorem jd{F:HL}{A:Option Addr}{n:Nat}{xs:List Int}(hl:ArgL F A n xs){pl:Int}(hp:0 <= pl)(cnt i:Nat)(hi:i<cnt):RowOk pl ((aB pl xs cnt).getD i []):=by
 rw[Bd hi];exact CF hl hp _
theorem Be(S:Setup)(A:Option Addr)(n cap:Nat)(xs:List Int)(cnt:Nat)(F:HL)(hl:ArgL F A n xs)(hn:n <= 9223372036854775807)(hp:1 <= S.players /\ S.players <= 1000000)(ZW:cnt <= 19):Sp Tryz.prog 33 #[Setup.v S,.slice A n cap,vI (cnt:Int)] (ap [] []) F (λ u H'=>∃x:(Option Addr × Nat × List Rw) × HL × HL,H'=ap [] [x.2.1,x.2.2] /\ (u=.slice x.1.1 cnt x.1.2.1 /\ SlIs jH 38 x.1.2.2 x.1.1 x.1.2.1 x.2.1 /\ x.1.2.2.length=cnt /\ RwsT x.1.2.2 (aB S.players xs cnt) x.2.2)):=by
 refine aat Tryz.func33 rfl mn (A:=[]) (Ts:=[]) rfl λ w0=>?_;refine ae 18 [] λ n1=>aao<|aao<|aan (σ:=Nat × Option Addr × Nat × List Rw × HL × HL) (λ ⟨t_,A_,c_,rs_,E_,T_⟩=>⟨[(1,.slice A n cap),(2,vI (cnt:Int)),(3,vP (n1+0) 0),(7,.slice A_ t_ c_),(8,vI (t_:Int))],[((n1+0),.lit (Setup.l S) 31 (0,0))],[E_,T_],t_ <= cnt /\ t_ <= 20 /\ SlIs jH 38 rs_ A_ c_ E_ /\ rs_.length=t_ /\ RwsT rs_ (aB S.players xs t_) T_,20-t_⟩) (0,none,0,[],[],[]) [0] [0,1] (⟨aa9 _,aa9 _,aas _ _,rfl,RwsT.nil⟩) ?_;rintro⟨t_,A_,c_,rs_,E_,T_⟩ ⟨ht_,alk,RA,VF,hT_⟩ RF;refine ae 8 [] λ _=>aal ((t_:Int)<(cnt:Int)) 11 (λ h4=>?_) λ h4=>?_
 ·refine ae 10 (ow 0 16) λ _=>aai (Hp:=[]) (Tp:=[]) [] [] (pk S A n cap xs (t_:Int) _ hl.up hn (by omega) (by omega)) ?_;rintro _ ⟨A5,c6,T7⟩ ⟨rfl,hs8,hz9⟩;dsimp only at hs8 hz9;refine ae 1 [] λ SZ=>iU IE rs_ [(⟨A5,S.players.toNat,c6⟩:Rw)] 1 0 VF.symm RA (by simp;omega) ?_;rintro A11 c12 SC ⟨TH,aaF⟩;refine aj 9 [.nw] [bx ((t_:Int)+1)] λ _=>sS [2,1,0]<|wo ?_;refine RF (t_+1,A11,c12,rs_++[(⟨A5,S.players.toNat,c6⟩:Rw)],SC,T_++T7) [1] [1,0] ?_
  try dsimp only
  refine⟨⟨by omega,by omega,TH,by simp;omega,?_⟩,by omega⟩;rw[yU];exact hT_.snoc hs8 (by rw[eM];omega) (eM _ _ _ _).symm
 ·refine ae 12 [] λ _=>aap [] [] [0,1] (v:=.slice A_ t_ c_) (H':=(ap [] [E_,T_])) ?_;obtain rfl:t_=cnt:=by omega
  exact⟨((A_,c_,rs_),E_,T_),rfl,rfl,RA,VF,hT_⟩
def vT(c:Int):Inp:=⟨c % 3-1,c / 3 % 3-1,c / 9⟩
theorem LL{c:Int}(h:0 <= c /\ c <= 35):fh (vT c):=by unfold fh vT;dsimp only;omega
theorem E5(c:Int)(F:HL)(hc:0 <= c /\ c <= 35):Sp Tryz.prog 44 #[.int .u8 c] [] F (λ u H'=>u=.tuple #[.agg #[vI (vT c).dx,vI (vT c).dy,vI (vT c).act],vI 0] /\ H'=[]):=by
 refine aat Tryz.func44 rfl mn (A:=[]) (Ts:=[]) rfl λ w0=>?_;refine ae 15 [] λ n1=>aN 4 (congrArg (λ v_=>(vI v_:Value)) (show i64.wrap c=c by rw[IntKind.wrap_i64];omega))<|ae 5 [] λ _=>aal (c>35) 8 (λ h2=>?_) λ h2=>?_
 ·(exfalso;omega)
 ·refine aj 19 [.nw,.nw,.nw,.nw,.nw,.nw,.own 0,.own 0,.own 0] [0 <= c /\ (0:Int)<9 /\ c <= 9223372036854775807,bx (((c / 3) % 3)-1),0 <= c / 3 /\ (0:Int)<3 /\ c / 3 <= 9223372036854775807,0 <= c /\ (0:Int)<3 /\ c <= 9223372036854775807,bx ((c % 3)-1),0 <= c /\ (0:Int)<3 /\ c <= 9223372036854775807] λ _=>?_;exact aap (aab 3) [] [] ⟨rfl,rfl⟩
theorem JA(n:Int)(F:HL)(hn:mh n):Sp Tryz.prog 15 #[vI n] [] F (λ u H'=>u=.agg #[vI (vT (aq n 36)).dx,vI (vT (aq n 36)).dy,vI (vT (aq n 36)).act] /\ H'=[]):=by
 have hA_:0 <= aq n 36 /\ aq n 36 <= 35:=by have h_:=b8 (n:=n) hn 36 (by decide);omega
 refine aat Tryz.func15 rfl mn (A:=[]) (Ts:=[]) rfl λ w0=>?_;refine ae 8 [] λ n1=>aah (fJ n 36 (by decide) _)<|ae 1 [] λ _=>aN 8 (congrArg (λ v_=>((.int .u8 v_):Value)) (show u8.wrap (aq n 36)=aq n 36 by rw[IntKind.wrap_u8];omega))<|aah (E5 (aq n 36) _ hA_)<|ae 14 (ow 0 6++[.own 1,.own 1,.own 1]) λ n2=>?_;exact aap [.own 1,.own 1,.own 1] [] [] ⟨rfl,rfl⟩
structure ActI where (dO bY nN:Int)
def nl:Enc ActI:=⟨3,λ p k=>match k with|0=>vI p.dO|1=>vI p.bY|_=>vI p.nN,⟨0,0,0⟩⟩
noncomputable def Mv:TypeInfo:=match Tryz.prog.info? 54 with | some i=>i | none=>⟨.bool,"",0,0,false,0,0,none,false,#[]⟩
noncomputable def Mw:Value:=match Mv.zero with|some z=>z|none=>.bool false
theorem JB:EncOk nl Tryz.prog 54 Mv Mw where
 info:=by kernel_rfl
 zero:=by kernel_rfl
 size:=by kernel_rfl
 zsize:=by kernel_rfl
 zcell:=λ k hk=>by
  have h:∀k<3,Mw.cells[k]?=some (nl.cell nl.dflt k):=by intro k hk;(iterate 3 (rcases k with _|k;· kernel_rfl));omega
  exact h k hk
 one:=λ x k=>by unfold nl;dsimp only;split <;> rfl
 bytes:=aaN (by kernel_rfl)
def om(n:Int):ActI:=⟨n % 5,if n / 540 % 9=0 then n / 4860 % 7-3 else n / 180 % 3,n / 5 % 36⟩
def gW(xs:List Int)(k:Nat):List ActI:=(List.range k).map λ i=>om (aq (xs.getD i 0) 1000000)
theorem rV(xs:List Int)(k:Nat):gW xs (k+1)=gW xs k++[om (aq (xs.getD k 0) 1000000)]:=by simp[gW,List.range_succ]
theorem iI(xs:List Int)(k:Nat):(gW xs k).length=k:=by simp[gW]
theorem JC(A:Option Addr)(n cap:Nat)(xs:List Int)(F:HL)(hl:ArgL F A n xs)(hn:n <= 9223372036854775807):Sp Tryz.prog 22 #[.slice A n cap] (ap [] []) F (λ u H'=>∃x:Nat × Option Addr × Nat × HL,H'=ap [] [x.2.2.2] /\ (x.1=min n 14 /\ u=.slice x.2.1 x.1 x.2.2.1 /\ SlIs nl 54 (gW xs x.1) x.2.1 x.2.2.1 x.2.2.2)):=by
 refine aat Tryz.func22 rfl mn (A:=[]) (Ts:=[]) rfl λ w0=>?_;refine ae 17 [] λ _=>aao<|aan (σ:=Nat × Option Addr × Nat × HL) (λ ⟨k_,A_,c_,T_⟩=>⟨[(0,.slice A n cap),(3,.slice A_ k_ c_),(4,vI (k_:Int))],[],[T_],k_ <= min n 14 /\ SlIs nl 54 (gW xs k_) A_ c_ T_,min n 14-k_⟩) (0,none,0,[]) [] [0] (⟨aa9 _,aas _ _⟩) ?_;rintro⟨k_,A_,c_,T_⟩ ⟨VQ,RA⟩ R9;refine ae 8 [] λ _=>aal ((k_:Int)<(n:Int)) 11 (λ h3=>?_) λ h3=>?_
 ·refine ae 5 [] λ _=>aal ((k_:Int)<14) 14 (λ h4=>?_) λ h4=>?_
  ·refine ae 9 [] λ _=>?_;obtain⟨qx5,Rn,Wx,gx5,aiP,Zv,Ti,TJ,YC,Ur,aeh⟩:=hl.at (k:=k_) (by omega);refine aN 17 (congrArg (λ v_=>(.slice v_ n cap:Value)) Ti)<|RN.ro (λ _=>(mc TJ mn))<|aj 2 [.ix k_,.rorow 0 (Rn+k_) 0] [(Rn+k_*1)=(Rn+k_)*1+0 /\ (Rn+k_)<Wx,(k_:Int)=((k_:Nat):Int) /\ k_<n] λ _=>aN 20 (congrArg (λ v_=>(v_:Value)) Ur)<|aah (fJ (xs.getD k_ 0) 1000000 (by decide) _) ?_;have hA_:=b8 (n:=xs.getD k_ 0) aeh 1000000 (by decide);refine aj 27 [.nw,.nw,.nw,.nw,.nw,.own 0,.own 0,.own 0,.nw,.nw] [0 <= (aq (xs.getD k_ 0) 1000000) / 540 /\ (0:Int)<9 /\ (aq (xs.getD k_ 0) 1000000) / 540 <= 9223372036854775807,0 <= aq (xs.getD k_ 0) 1000000 /\ (0:Int)<540 /\ aq (xs.getD k_ 0) 1000000 <= 9223372036854775807,0 <= (aq (xs.getD k_ 0) 1000000) / 180 /\ (0:Int)<3 /\ (aq (xs.getD k_ 0) 1000000) / 180 <= 9223372036854775807,0 <= aq (xs.getD k_ 0) 1000000 /\ (0:Int)<180 /\ aq (xs.getD k_ 0) 1000000 <= 9223372036854775807,0 <= (aq (xs.getD k_ 0) 1000000) / 5 /\ (0:Int)<36 /\ (aq (xs.getD k_ 0) 1000000) / 5 <= 9223372036854775807,0 <= aq (xs.getD k_ 0) 1000000 /\ (0:Int)<5 /\ aq (xs.getD k_ 0) 1000000 <= 9223372036854775807,0 <= aq (xs.getD k_ 0) 1000000 /\ (0:Int)<5 /\ aq (xs.getD k_ 0) 1000000 <= 9223372036854775807] λ n6=>aal (((aq (xs.getD k_ 0) 1000000) / 540) % 9=0) 34 (λ h7=>?_) λ h7=>?_
   ·refine aj 13 [.nw,.nw,.nw,.own 0,.own 0,.own 0,.own 0] [bx ((((aq (xs.getD k_ 0) 1000000) / 4860) % 7)-3),0 <= (aq (xs.getD k_ 0) 1000000) / 4860 /\ (0:Int)<7 /\ (aq (xs.getD k_ 0) 1000000) / 4860 <= 9223372036854775807,0 <= aq (xs.getD k_ 0) 1000000 /\ (0:Int)<4860 /\ aq (xs.getD k_ 0) 1000000 <= 9223372036854775807] λ _=>aN 41 (congrArg (λ v_=>(.agg #[vI ((aq (xs.getD k_ 0) 1000000) % 5),vI v_,vI (((aq (xs.getD k_ 0) 1000000) / 5) % 36)]:Value)) (show (((aq (xs.getD k_ 0) 1000000) / 4860) % 7)-3=(om (aq (xs.getD k_ 0) 1000000)).bY from (if_pos h7).symm))<|ae 1 [] λ n8=>iU JB (gW xs k_) [om (aq (xs.getD k_ 0) 1000000)] 0 0 (iI xs k_).symm RA (by rw[iI];simp;omega) ?_;rintro A9 X6 Rm ⟨Yw,aaG⟩;refine aj 9 [.nw] [bx ((k_:Int)+1)] λ _=>?_;refine R9 (k_+1,A9,X6,Rm) [] [0] ?_
    try dsimp only
    exact⟨⟨by omega,by rw[rV];exact Yw⟩,by omega⟩
   ·refine ae 6 (aab 3) λ _=>aN 41 (congrArg (λ v_=>(.agg #[vI ((aq (xs.getD k_ 0) 1000000) % 5),vI v_,vI (((aq (xs.getD k_ 0) 1000000) / 5) % 36)]:Value)) (show ((aq (xs.getD k_ 0) 1000000) / 180) % 3=(om (aq (xs.getD k_ 0) 1000000)).bY from (if_neg h7).symm))<|ae 1 [] λ ZH=>iU JB (gW xs k_) [om (aq (xs.getD k_ 0) 1000000)] 0 0 (iI xs k_).symm RA (by rw[iI];simp;omega) ?_;rintro A15 c16 Sx ⟨VE,Ym⟩;refine aj 9 [.nw] [bx ((k_:Int)+1)] λ _=>?_;refine R9 (k_+1,A15,c16,Sx) [] [0] ?_
    try dsimp only
    exact⟨⟨by omega,by rw[rV];exact VE⟩,by omega⟩
  ·refine ae 12 [] λ _=>aap [] [] [0] (v:=.slice A_ k_ c_) (H':=(ap [] [T_])) ?_;obtain⟨k0_,YN⟩:∃x,min n 14=x:=⟨_,rfl⟩;obtain rfl:k_=k0_:=by omega
   exact⟨(k_,A_,c_,T_),rfl,YN.symm,rfl,RA⟩
 ·refine ae 17 [] λ _=>aap [] [] [0] (v:=.slice A_ k_ c_) (H':=(ap [] [T_])) ?_;obtain⟨k0_,YN⟩:∃x,min n 14=x:=⟨_,rfl⟩;obtain rfl:k_=k0_:=by omega
  exact⟨(k_,A_,c_,T_),rfl,YN.symm,rfl,RA⟩
theorem LM{n:Int}(h:0 <= n /\ n<1000000):(0 <= (om n).dO /\ (om n).dO <= 4) /\ (-3 <= (om n).bY /\ (om n).bY <= 3) /\ (0 <= (om n).nN /\ (om n).nN <= 35):=by
 unfold om;dsimp only;refine⟨by omega,?_,by omega⟩;split <;> omega
theorem E6{F:HL}{A:Option Addr}{n:Nat}{xs:List Int}(hl:ArgD F A n xs){k i:Nat}(hk:k <= n)(hi:i<k):(0 <= ((gW xs k).getD i nl.dflt).dO /\ ((gW xs k).getD i nl.dflt).dO <= 4) /\ (-3 <= ((gW xs k).getD i nl.dflt).bY /\ ((gW xs k).getD i nl.dflt).bY <= 3) /\ (0 <= ((gW xs k).getD i nl.dflt).nN /\ ((gW xs k).getD i nl.dflt).nN <= 35):=by
 obtain⟨F',hl⟩:=hl.ex;have e:(gW xs k).getD i nl.dflt=om (aq (xs.getD i 0) 1000000):=by simp[gW,hi]
 rw[e];obtain⟨_,_,_,_,_,_,_,_,_,_,hr⟩:=hl.at (k:=i) (by omega);exact LM (b8 hr 1000000 (by decide))
def DoF(a:ActI)(w vl rl rb UQ Z8 Yc m2:Nat)(n e:Int):Prop :=
 (a.dO=0 /\ n=0 /\ UQ=vl /\ Z8=rl /\ Yc=rb) \/ ((a.dO=1 \/ a.dO=4) /\ n=0 /\ e=0 /\ UQ=vl /\ Z8=rl+1 /\ Yc=rb) \/ ((¬ a.dO=0 /\ ¬ a.dO=1 /\ ¬ a.dO=4) /\ LK ((vl:Int)+a.bY) w vl rl rb UQ Z8 Yc m2 n e)
abbrev uo(S:Setup)(xs:List Int):Nat -> List Inp:=λ t=>rowL S.players xs ((t:Int) / 2) S.players.toNat
theorem Oj{rs_:List Bx}{ds_:List Dr}{bp pp pl me w:Nat}{S:Setup}{J:Nat -> Nat × Int}{P:PS (List Inp)}{kv:List (Int × Value × Nat)}{c sn:Nat}{TR:Nat -> List Inp}{V:List (List Inp)}{m k:Nat}{G F:HL}(A:Option Addr)(n cap:Nat)(xs:List Int)(a:ActI)(h:PeerR rs_ ds_ bp pp pl me w S J P kv c sn none G)(hI:PeerI S J w TR P V m k)(Zg:TR=uo S xs)(hT:∀t,RowOk S.players (TR t))(hV:SetV S)(S9:me<pl)(hw:1 <= w /\ w <= 12)(hk:k <= 36)(hc:c <= 50*k)(RH:∀i,i <= 50 -> (J i).1<5 /\ AtOk F bp (i:Int) (J i))(hE:cG F)(hl:ArgD F A n xs)(hn:n <= 9223372036854775807)(ha:(0 <= a.dO /\ a.dO <= 4) /\ (-3 <= a.bY /\ a.bY <= 3) /\ (0 <= a.nN /\ a.nN <= 35)):Sp Tryz.prog 23 #[vP pp 0,Setup.v S,.slice A n cap,.agg #[vI a.dO,vI a.bY,vI a.nN]] (ap [] [G]) F (λ u H'=>∃y:(Int × Int × PS (List Inp) × List (Int × Value × Nat) × Nat × List (List Inp) × Nat) × HL,H'=ap [] [y.2] /\ (u=.tuple #[vI y.1.1,vI y.1.2.1] /\ PeerR rs_ ds_ bp pp pl me w S J y.1.2.2.1 y.1.2.2.2.1 y.1.2.2.2.2.1 sn none y.2 /\ PeerI S J w TR y.1.2.2.1 y.1.2.2.2.2.2.1 y.1.2.2.2.2.2.2 (k+1) /\ y.1.2.2.2.2.1 <= 50*(k+1) /\ DoF a w V.length P.rows.length P.rb y.1.2.2.2.2.2.1.length y.1.2.2.1.rows.length y.1.2.2.1.rb y.1.2.2.2.2.2.2 y.1.1 y.1.2.1)):=by
 have aeP:=hI.lim;have ad1:=hI.vlen;have ajV:=hV.pl;have Rk:=hI.t0 hV (by omega);refine aat Tryz.func23 rfl mn (A:=[]) (Ts:=[G]) rfl λ w0=>?_;refine ae 22 [.own 0] λ n1=>aal (a.dO=0) 13 (λ h2=>?_) λ h2=>?_
 ·refine ae 2 [] λ _=>aak [9] []<|ag [] [0,1,3,6,4,7] (aab 2)<|aac [] 2 (λ X_=>(yN h (aK 0) Rk))<|aD [] [5] [.nw] [bx ((V.length:Int)+a.bY)]<|aac [] 8 (λ X_=>(JA a.nN _ (by unfold mh;omega)))<|aae 9 (aaf [] [] [0] (AY (t:=(V.length:Int)+a.bY) (xi:=(vT (aq a.nN 36))) h (LL (by have h_:=b8 (n:=a.nN) (by unfold mh;omega) 36 (by decide);omega))) ?_);rintro _ T5 ⟨⟨kv3,e4⟩,rfl,hs6⟩;refine ag [] [10,11] []<|aad<|ae 1 [] λ _=>aap [] [] [0] (v:=.tuple #[vI 0,vI e4]) (H':=(ap [] [T5])) ?_;exact⟨((0,e4,P,kv3,c,V,m),T5),rfl,rfl,hs6,hI.more (Nat.le_succ _),by show c <= _;omega,.inl ⟨by omega,rfl,rfl,rfl,rfl⟩⟩
 ·refine ae 8 [] λ _=>aal (a.dO=1) 25 (λ h7=>?_) λ h7=>?_
  ·refine ae 7 [] λ _=>aah (AW h (au 0))<|ae 10 (ow 1 16) λ _=>aai (Hp:=[]) (Tp:=[]) [] [] (hl.up.use λ F_ h_=>pk S A n cap xs (P.rows.length:Int) F_ h_ hn (by omega) (by omega)) ?_;rintro _ ⟨A8,c9,SX⟩ ⟨rfl,UW,aaH⟩;dsimp only at UW aaH;refine aai [] [1] (Jz (cc:=c9) h hI hT hV hk hc (UW.rowN (au 0) (eM _ _ _ _)) (by rw[Zg]) rfl) ?_;rintro _ SC ⟨rfl,TH,afV⟩;refine ae 4 [] λ _=>aap [] [] [0] (v:=.tuple #[vI 0,vI 0]) (H':=(ap [] [SC])) ?_;exact⟨((0,0,fY P (TR P.rows.length),nj kv (P.rows.length:Int),c,V,m),SC),rfl,rfl,TH,afV,by show c <= _;omega,.inr (.inl ⟨by omega,rfl,rfl,rfl,by show (P.rows++[_]).length=_;simp,rfl⟩)⟩
  ·refine ae 6 [] λ _=>aal (a.dO=4) 25 (λ Sf=>?_) λ Sf=>?_
   ·refine ae 4 [] λ _=>aah (AW h (au 0))<|ae 10 (ow 1 16) λ _=>aai (Hp:=[]) (Tp:=[]) [] [] (hl.up.use λ F_ h_=>pk S A n cap xs (P.rows.length:Int) F_ h_ hn (by omega) (by omega)) ?_;rintro _ ⟨A17,ZY,Ve⟩ ⟨rfl,WW,Yl⟩;dsimp only at WW Yl;refine aai [] [1] (Jz (cc:=ZY) h hI hT hV hk hc (WW.rowN (au 0) (eM _ _ _ _)) (by rw[Zg]) rfl) ?_;rintro _ Vp ⟨rfl,Yv,afU⟩;refine ae 4 [] λ _=>aap [] [] [0] (v:=.tuple #[vI 0,vI 0]) (H':=(ap [] [Vp])) ?_;exact⟨((0,0,fY P (TR P.rows.length),nj kv (P.rows.length:Int),c,V,m),Vp),rfl,rfl,Yv,afU,by show c <= _;omega,.inr (.inl ⟨by omega,rfl,rfl,rfl,by show (P.rows++[_]).length=_;simp,rfl⟩)⟩
   ·refine ae 5 [] λ _=>aak [6] []<|ag [] [0,1,3,4] [.own 0]<|aac [] 2 (λ X_=>(yN h (aK 0) Rk))<|aD [] [5] [.nw] [bx ((V.length:Int)+a.bY)]<|aae 6 (aaf [] [] [0] (P8 (tt:=(V.length:Int)+a.bY) h hI hT hV S9 hw hk hc (λ i hi=>⟨(RH i hi).1,(RH i hi).2.mono λ x hx=>az hx⟩) (az hE)) ?_);rintro _ ⟨⟨Vt,e26,P27,adI,c29,V30,m31⟩,Wv⟩ ⟨rfl,aaX,ab6,abH,acj⟩;dsimp only at aaX ab6 abH acj;refine ag [] [7,8,9,10] []<|aad<|ae 1 [] λ _=>aap [] [] [0] (v:=.tuple #[vI Vt,vI e26]) (H':=(ap [] [Wv])) ?_;exact⟨((Vt,e26,P27,adI,c29,V30,m31),Wv),rfl,rfl,aaX,ab6,abH,.inr (.inr ⟨by omega,acj⟩)⟩
theorem Bf{α:Type}{l r:List α}{o n:Nat}(h:(l.drop o).take n=r){k:Nat}(hk:k<n){d:α}:l.getD (o+k) d=r.getD k d:=by
 have h1:((l.drop o).take n)[k]?=r[k]?:=by rw[h]
 rw[acm,if_pos hk,ack] at h1;rw[aaJ,aaJ,h1]
theorem E7(mb w:Nat)(F:HL)(hw:1 <= w /\ w <= 13):Sp Tryz.prog 63 #[vP mb 0,vI (w:Int)] [] F (λ u H'=>∃b:Nat,H'=ap [(b,.lit [vP mb 0,vI (w:Int),.slice none 0 0] 169 (0,0))] [] /\ u=vP b 0):=by
 refine aat Tryz.func63 rfl mn (A:=[]) (Ts:=[]) rfl λ w0=>?_;refine ae 11 [] λ _=>aN 8 (congrArg (λ v_=>(vI v_:Value)) (show (if (if 13<(w:Int) then 13 else (w:Int))>1 then (if 13<(w:Int) then 13 else (w:Int)) else 1)=(w:Int) by (repeat' split) <;> omega))<|ae 5 [] λ n1=>aap [] [0] [] (v:=vP (n1+0) 0) (H':=(ap [((n1+0),.lit [vP mb 0,vI (w:Int),.slice none 0 0] 169 (0,0))] [])) ?_;exact⟨_,rfl,rfl⟩
theorem uq(mb w:Nat)(F:HL)(hw:1 <= w /\ w <= 13):Sp Tryz.prog 63 #[vP mb 0,vI (w:Int)] (ap [] []) F (λ u H'=>∃x:Nat × HL,H'=ap [] [x.2] /\ (u=vP x.1 0 /\ RingH x.1 mb w 0 [] x.2)):=(E7 mb w F hw).mono λ u H' h=>by
 obtain⟨b,rfl,hse_⟩:=h;refine⟨(b,ap [(b,.lit [vP mb 0,vI (w:Int),.slice none 0 0] 169 (0,0))] [[]]),by simp[ap],hse_,?_⟩;exact RingH.mk (n:=0) (SlX.nil _ _) rfl (λ _=>⟨rfl,rfl,rfl⟩)
theorem yV(S:Setup)(rs:List Bx)(ds:List Dr)(bp pl me w:Nat)(J:Nat -> Nat × Int)(F:HL)(hS:SetCl F S)(hM:MapIn F S rs ds)(h1:1 <= S.nb)(RV:S.rn <= 1000000)(UM:S.dn <= 1000000)(IT:(sizeOf S).toNat <= 1000000)(hv:ln S rs ds=0)(hpl:S.players=(pl:Int))(S9:me<pl)(hw:1 <= w /\ w <= 12):Sp Tryz.prog 37 #[Setup.v S,vP bp 0,vI (me:Int),vI (w:Int)] (ap [] []) F (λ u H'=>∃x:Nat × HL,H'=ap [] [x.2] /\ (u=.tuple #[vP x.1 0,vI 0] /\ PeerR rs ds bp x.1 pl me w S J (⟨⟨br S S.nb,[],0⟩,0,[],[],0,[],[],0⟩:PS (List Inp)) ([]) 0 0 none x.2)):=by
 have akn:=jP S S.nb;refine aat Tryz.func37 rfl mn (A:=[]) (Ts:=[]) rfl λ w0=>?_;refine ae 11 (ow 0 16) λ n1=>aai (Hp:=[]) (Tp:=[]) [] [] (rd S rs ds bp _ hS.up hM.up h1 RV UM IT hv 99020000 (by decide)) ?_;rintro _ ⟨g2,S3,T4⟩ ⟨rfl,XW,hG6⟩;dsimp only at XW hG6;obtain⟨aaz,Yo⟩:=hG6.x;refine ae 23 [] λ _=>aal ((me:Int)<0) 24 (λ h7=>?_) λ h7=>?_
 ·(exfalso;omega)
 ·refine ae 7 [.own 0] λ _=>aal ((me:Int) >= S.players) 29 (λ h8=>?_) λ h8=>?_
  ·(exfalso;omega)
  ·refine ae 9 [] λ _=>aal ((w:Int)<1) 32 (λ h9=>?_) λ h9=>?_
   ·(exfalso;omega)
   ·refine ae 5 [] λ _=>aal ((w:Int)>12) 35 (λ TA=>?_) λ TA=>?_
    ·(exfalso;omega)
    ·refine ae 7 (ow 0 16) λ _=>aai (Hp:=[]) (Tp:=[]) [] [] (rd S rs ds bp _ hS.up hM.up h1 RV UM IT hv 99020000 (by decide)) ?_;rintro _ ⟨g11,S12,SC⟩ ⟨rfl,YX,ab9⟩;dsimp only at YX ab9;obtain⟨ajd,aaK⟩:=ab9.x;refine ae 18 [] λ _=>aak [] []<|ag [] [0,2,3,4,5,7,10,1] [.own 0]<|aac [] 6 (λ X_=>(Ms Yo (aK 1)))<|ge 8 9 ?_ ?_
     ·refine aaf [] (Hp:=[]) (Tp:=[]) [] [] (uq aaz w _ (by omega)) ?_;rintro _ ⟨b16,Sx⟩ ⟨rfl,abh⟩;dsimp only at abh;refine aae 9 (aag [] [] λ ZG=>?_);refine iV 46 (congrArg (λ v_=>(vI v_:Value)) hpl)<|ag [] [11] []<|aae 12 (aag [] [] λ UE=>?_);refine ag [] [13,14] []<|aad<|ae 1 [] λ _=>aap [] [0,1] [2,0,1] (v:=.tuple #[vP (UE+0) 0,vI 0]) (H':=(ap [((UE+0),.lit [vI (pl:Int),vI (me:Int),vI (w:Int),vP g2 0,vP b16 0,.map (some (ZG+0)),.slice none 0 0,vI 0,.slice none 0 0,.slice none 0 0,vI 0,vP g11 0] 102 (0,0)),((ZG+0),.obj (bF [] 0))] [T4,Sx,SC])) ?_;exact⟨((UE+0),ap [((UE+0),.lit [vI (pl:Int),vI (me:Int),vI (w:Int),vP g2 0,vP b16 0,.map (some (ZG+0)),.slice none 0 0,vI 0,.slice none 0 0,.slice none 0 0,vI 0,vP g11 0] 102 (0,0)),((ZG+0),.obj (bF [] 0))] [T4,Sx,[],[],[],[],[],SC]),by simp[ap],rfl,PeerR.mk (P:=(⟨⟨br S S.nb,[],0⟩,0,[],[],0,[],[],0⟩:PS (List Inp))) (rl:=[]) (ul:=[]) (el:=[]) rfl rfl rfl rfl rfl XW (Yo.weak (aa9 _)) ⟨Int.le_refl 0,Int.le_refl 0⟩ abh LocIn.nil (aas _ _) rfl RwsT.nil (SlX.nil _ _) rfl RwsT.nil (aas _ _) rfl EfsT.nil YX aaK rfl (aa0 _) ⟨Int.le_refl 0,Int.le_refl 0⟩ hpl (λ _ _ h_=>by cases h_)⟩
     ·refine aag [] [] λ Rl=>aae 8 (aaf [] (Hp:=[]) (Tp:=[]) [] [] (uq aaz w _ (by omega)) ?_);rintro _ ⟨b22,Yb⟩ ⟨rfl,abg⟩;dsimp only at abg;refine iV 46 (congrArg (λ v_=>(vI v_:Value)) hpl)<|ag [] [11] []<|aae 12 (aag [] [] λ Vt=>?_);refine ag [] [13,14] []<|aad<|ae 1 [] λ _=>aap [] [0,1] [2,0,1] (v:=.tuple #[vP (Vt+0) 0,vI 0]) (H':=(ap [((Vt+0),.lit [vI (pl:Int),vI (me:Int),vI (w:Int),vP g2 0,vP b22 0,.map (some (Rl+0)),.slice none 0 0,vI 0,.slice none 0 0,.slice none 0 0,vI 0,vP g11 0] 102 (0,0)),((Rl+0),.obj (bF [] 0))] [T4,Yb,SC])) ?_;exact⟨((Vt+0),ap [((Vt+0),.lit [vI (pl:Int),vI (me:Int),vI (w:Int),vP g2 0,vP b22 0,.map (some (Rl+0)),.slice none 0 0,vI 0,.slice none 0 0,.slice none 0 0,vI 0,vP g11 0] 102 (0,0)),((Rl+0),.obj (bF [] 0))] [T4,Yb,[],[],[],[],[],SC]),by simp[ap],rfl,PeerR.mk (P:=(⟨⟨br S S.nb,[],0⟩,0,[],[],0,[],[],0⟩:PS (List Inp))) (rl:=[]) (ul:=[]) (el:=[]) rfl rfl rfl rfl rfl XW (Yo.weak (aa9 _)) ⟨Int.le_refl 0,Int.le_refl 0⟩ abg LocIn.nil (aas _ _) rfl RwsT.nil (SlX.nil _ _) rfl RwsT.nil (aas _ _) rfl EfsT.nil YX aaK rfl (aa0 _) ⟨Int.le_refl 0,Int.le_refl 0⟩ hpl (λ _ _ h_=>by cases h_)⟩
theorem yW(S:Setup)(rs:List Bx)(ds:List Dr)(bp pl me w:Nat)(J:Nat -> Nat × Int)(F:HL)(hS:SetCl F S)(hM:MapIn F S rs ds)(h1:1 <= S.nb)(RV:S.rn <= 1000000)(UM:S.dn <= 1000000)(IT:(sizeOf S).toNat <= 1000000)(hv:ln S rs ds=0)(hpl:S.players=(pl:Int))(S9:me<pl)(hw:1 <= w /\ w <= 12):Sp Tryz.prog 12 #[(Setup.v S),vP bp 0,vI (me:Int),vI (w:Int)] [] F (λ u H'=>∃x:Nat × HL,H'=ap [] [x.2] /\ (u=vP x.1 0 /\ PeerR rs ds bp x.1 pl me w S J (⟨⟨br S S.nb,[],0⟩,0,[],[],0,[],[],0⟩:PS (List Inp)) ([]) 0 0 none x.2)):=by
 refine aat Tryz.func12 rfl mn (A:=[]) (Ts:=[]) rfl λ w0=>?_;refine ae 22 (ow 0 16) λ n1=>aai (Hp:=[]) (Tp:=[]) [] [] (yV S rs ds bp pl me w J _ hS.up hM.up h1 RV UM IT hv hpl S9 hw) ?_;rintro _ ⟨p2,T3⟩ ⟨rfl,hr4⟩;dsimp only at hr4;refine ae 23 [] λ _=>aap [] [] [0] (v:=vP p2 0) (H':=(ap [] [T3])) ?_;exact⟨(p2,T3),rfl,rfl,hr4⟩
theorem lE(S:Setup)(rs:List Bx)(ds:List Dr)(bp pl me w:Nat)(J:Nat -> Nat × Int)(F:HL)(hS:SetCl F S)(hM:MapIn F S rs ds)(h1:1 <= S.nb)(RV:S.rn <= 1000000)(UM:S.dn <= 1000000)(IT:(sizeOf S).toNat <= 1000000)(hv:ln S rs ds=0)(hpl:S.players=(pl:Int))(S9:me<pl)(hw:1 <= w /\ w <= 12){mi wi:Int}(hmi:mi=(me:Int))(hwi:wi=(w:Int)):Sp Tryz.prog 12 #[Setup.v S,vP bp 0,vI mi,vI wi] (ap [] []) F (λ u H'=>∃x:Nat × HL,H'=ap [] [x.2] /\ (u=vP x.1 0 /\ PeerR rs ds bp x.1 pl me w S J (⟨⟨br S S.nb,[],0⟩,0,[],[],0,[],[],0⟩:PS (List Inp)) ([]) 0 0 none x.2)):=by
 subst hmi;subst hwi;exact yW S rs ds bp pl me w J F hS hM h1 RV UM IT hv hpl S9 hw
def cC(b:Nat):Setup:=⟨1,b,0,1,1,1,[⟨⟨5,[],none,0⟩,⟨0,0,0,0,0⟩,0,0⟩],⟨0,0,0,0⟩,none,0,0,none,0,0,0,⟨0,0⟩,0,0,0,1,0⟩
theorem yX(b:Nat):ln (cC b) [] []=0:=by kernel_rfl
theorem Bg(b:Nat):SetV (cC b):=⟨⟨show (1:Int) <= 1 by decide,show (1:Int) <= 3 by decide⟩,⟨show 1 <= 1 by decide,show 1 <= 5 by decide⟩,⟨show (1:Int) <= 1 by decide,show (1:Int) <= 3 by decide⟩,⟨show (0:Int) <= 0 by decide,show (0:Int) <= 60 by decide⟩⟩
theorem CN{b:Nat}{F:HL}(hb:(b,.rows 9 1 (mf (cC b).bods) 90 (0,0))∈F):SetCl F (cC b):=⟨⟨⟨show (0:Int) <= 1 by decide,show (1:Int) <= 1000000 by decide⟩,show 1 <= 1000000 by decide⟩,hb,show 0+1 <= 1 by decide,λ k hk=>by
 obtain rfl:k=0:=by have:k<1:=hk;omega
 exact⟨⟨.zero _,aa9 _⟩,.inl rfl⟩⟩
theorem yY(b:Nat)(F:HL):MapIn F (cC b) [] []:=⟨.zero _,.zero _⟩
theorem rX(n m:Int)(F:HL)(hn:mh n)(hm:mh m)(hE:pH F):Sp Tryz.prog 13 #[vI n,vI m] (ap [] []) F (λ u H'=>∃x:Nat × HL,H'=ap [] [x.2] /\ (u=vP x.1 0 /\ Book2 3 (aq n 5).toNat (aq m 5).toNat x.1 x.2)):=by
 refine aat Tryz.func13 rfl mn (A:=[]) (Ts:=[]) rfl λ w0=>?_;refine ae 8 [] λ _=>aah (rO n _ hn) ?_;have hA1:=b8 (n:=n) hn 5 (by decide);refine aai (Hp:=[]) (Tp:=[]) [] [] (IA (aq n 5).toNat _ (by omega) (az hE)) ?_;rintro _ ⟨b2,T3⟩ ⟨rfl,Wp⟩;dsimp only at Wp;refine ae 26 [] λ _=>aah (rO m _ hm) ?_;have hA5:=b8 (n:=m) hm 5 (by decide);refine aai [] [0] (LE Wp 3 (by decide) (aq m 5).toNat _ (by omega) (az hE)) ?_;rintro _ T6 ⟨rfl,hB7⟩;refine ae 12 [] λ _=>aap [] [] [0] (v:=vP b2 0) (H':=(ap [] [T6])) ?_;exact⟨(b2,T6),rfl,rfl,hB7⟩
abbrev v3:List (List Inp):=[[dI],[dI],[dI]]
theorem Mx:∀r∈v3,RowOk 1 r:=λ r hr=>by
 have e:r=[dI]:=by simpa using hr
 subst e;exact lC rfl λ x hx=>by rw[List.mem_singleton.1 hx];exact uh
section
variable {b bp pp:Nat} {J:Nat -> Nat × Int} {G F:HL}
theorem JD(h:PeerR [] [] bp pp 1 0 3 (cC b) J (⟨⟨br (cC b) (cC b).nb,[],0⟩,0,[],[],0,[],[],0⟩:PS (List Inp)) ([]) 0 0 none G)(RH:∀i,i <= 50 -> (J i).1<5 /\ AtOk F bp (i:Int) (J i))(hE:cG F):Sp Tryz.prog 17 #[vP pp 0,vI 3] (ap [] [G]) F (λ u H'=>∃y:PS (List Inp) × HL,H'=ap [] [y.2] /\ (u=.tuple #[vI 3,vI 0] /\ PeerR [] [] bp pp 1 0 3 (cC b) J y.1 ([]) (0+(3-eD (⟨⟨br (cC b) (cC b).nb,[],0⟩,0,[],[],0,[],[],0⟩:PS (List Inp)) ([]:List (List Inp)).length)) 0 none y.2 /\ PInv (gP (cC b) J) (br (cC b) (cC b).nb) 3 y.1 v3 0 /\ y.1.rows=[] /\ y.1.rb=0)):=by
 have hI:PInv (gP (cC b) J) (br (cC b) (cC b).nb) 3 (⟨⟨br (cC b) (cC b).nb,[],0⟩,0,[],[],0,[],[],0⟩:PS (List Inp)) [] 0:=rQ (⟨br (cC b) (cC b).nb,[],0⟩) 0;have WX:∀t,t<(([]:List (List Inp)).length) -> ([]:List (List Inp))[t]?=some (f5 1 0 [] (gV []) t):=λ t ht=>absurd ht (Nat.not_lt_zero _);obtain⟨a1,a2,a3,a4⟩:=hI.adv (by decide) (T:=3) (by decide) (aa0 3) (f5 1 0 [] (gV [])) WX;refine(vQ h hI (Bg b) (λ r hr=>by cases hr) (λ r hr=>by cases hr) (by decide) (by decide) (show 0<50 by decide) (by decide) (by decide) (show 0 <= 1000 by decide) RH hE 3 (by decide) (aa0 3) (by decide)).mono λ u H' q=>?_;obtain⟨x,rfl,h1,h2⟩:=q;exact⟨(_,x),rfl,h1,h2,a1,a3,a4⟩
theorem Ok{P:PS (List Inp)}(h:PeerR [] [] bp pp 1 0 3 (cC b) J P ([]) 3 0 none G)(hI:PInv (gP (cC b) J) (br (cC b) (cC b).nb) 3 P v3 0)(hr:P.rows=[])(VI:P.rb=0)(RH:∀i,i <= 50 -> (J i).1<5 /\ AtOk F bp (i:Int) (J i))(hE:cG F):Sp Tryz.prog 17 #[vP pp 0,vI 4] (ap [] [G]) F (λ u H'=>∃x,H'=ap [] [x] /\ (u=.tuple #[vI 0,vI 18] /\ PeerR [] [] bp pp 1 0 3 (cC b) J P ([]) 3 0 none x)) :=
 yR h hI (Bg b) Mx (by rw[hr];exact λ r hr=>by cases hr) (by decide) (by decide) (by rw[hr];decide) (by decide) (by decide) (by rw[VI];decide) RH hE 4 (by rw[hr];exact .inr (by decide))
theorem JE{P:PS (List Inp)}(h:PeerR [] [] bp pp 1 0 3 (cC b) J P ([]) 3 0 none G)(hr:P.rows=[]){r:Inp}(hi:fh r){q:Nat}(hq:(q,.rows 3 1 (aQ cV [r]) 40 (0,0))∈F):Sp Tryz.prog 16 #[vP pp 0,vI 0,vS q 0 1 1] (ap [] [G]) F (λ u H'=>∃x,H'=ap [] [x] /\ (u=vI 0 /\ PeerR [] [] bp pp 1 0 3 (cC b) J (fY P [r]) ([]) 3 0 none x)):=by
 have hl:RowL cV 40 F (some ⟨q,0,none⟩) 1 [r]:=.rows q 0 1 [r] (0,0) _ _ hq (by decide) rfl (λ k hk=>by rw[Nat.zero_add]);have h2:=ol (cc:=1) h hl rfl rfl (by decide) (by decide) (λ k hk=>by have e:k=0:=(by omega);subst e;exact hi) (by rw[hr];decide);rw[hr] at h2;exact h2
theorem JF{P:PS (List Inp)}{r:Inp}(h:PeerR [] [] bp pp 1 0 3 (cC b) J (fY P [r]) ([]) 3 0 none G)(hI:PInv (gP (cC b) J) (br (cC b) (cC b).nb) 3 P v3 0)(hr:P.rows=[])(VI:P.rb=0)(hi:fh r)(RH:∀i,i <= 50 -> (J i).1<5 /\ AtOk F bp (i:Int) (J i))(hE:cG F){n:Nat}(hn:n=if dI=r then 1 else 4):Sp Tryz.prog 17 #[vP pp 0,vI 4] (ap [] [G]) F (λ u H'=>∃y:PS (List Inp) × Nat × HL,H'=ap [] [y.2.2] /\ (u=.tuple #[vI (n:Int),vI 0] /\ PeerR [] [] bp pp 1 0 3 (cC b) J y.1 ([]) y.2.1 0 none y.2.2 /\ y.1.rb=if dI=r then 0 else 1)):=by
 have Vl:PInv (gP (cC b) J) (br (cC b) (cC b).nb) 3 (fY P [r]) v3 0:=hI.conf _;have hrw:(fY P [r]).rows=[[r]]:=by show P.rows++[[r]]=_;rw[hr];rfl
 have UN:(fY P [r]).ck=0:=Nat.le_zero.1 hI.ck;have hu:(fY P [r]).used=v3:=by have h_:=Vl.used;rw[UN] at h_;exact h_
 have aa2:(fY P [r]).rb=0:=VI;have g_:∀x∈(fY P [r]).rows,RowOk 1 x:=by
  rw[hrw];intro x hx;rw[List.mem_singleton.1 hx];exact lC rfl λ y hy=>by rw[List.mem_singleton.1 hy];exact hi
 have hrf:∀t,RowOk 1 (f5 1 0 (fY P [r]).rows (gV []) t):=λ t=>vL (pl:=1) g_ (λ t x e=>by cases e) t;obtain⟨a1,a2,a3,a4⟩:=Vl.adv (by decide) (T:=4) (by decide) (by rw[hrw];exact aa0 4) (f5 1 0 (fY P [r]).rows (gV [])) (λ t ht=>pd ht);have e1:eD (fY P [r]) v3.length=if dI=r then 3 else 0:=by
  unfold eD;rw[hrw,UN,hu];show (wr [[r]] 0 ([dI]::[[dI],[dI]])).getD 3=_;rw[wr];show ((if [dI]=[r] then wr [[r]] (0+1) [[dI],[dI]] else some 0):Option Nat).getD 3=_
  by_cases e:dI=r
  ·rw[if_pos (by rw[e]),if_pos e];rfl
  ·rw[if_neg (by intro e2;exact e (by simpa using e2)),if_neg e];rfl
 refine(vQ h Vl (Bg b) Mx g_ (by decide) (by decide) (by rw[hrw];show 1<50;decide) (by decide) (by decide) (by rw[aa2];decide) RH hE 4 (by decide) (by rw[hrw];exact aa0 4) (by decide)).mono λ u H' q=>?_;obtain⟨x,rfl,h1,h2⟩:=q;rw[e1] at h1;refine⟨(_,_,x),rfl,?_,h2,?_⟩
 ·rw[h1,hn]
  by_cases e:dI=r
  ·rw[if_pos e,if_pos e]
  ·rw[if_neg e,if_neg e]
 ·refine a4.trans ?_;rw[e1,aa2]
  by_cases e:dI=r
  ·rw[if_pos e,if_pos e];rfl
  ·rw[if_neg e,if_neg e];rfl
end
theorem CO{rs_:List Bx}{ds_:List Dr}{bp pp pl me w:Nat}{S:Setup}{J:Nat -> Nat × Int}{P:PS (List Inp)}{kv:List (Int × Value × Nat)}{c sn:Nat}{X:Option (Rw × List Inp)}{G F:HL}(h:PeerR rs_ ds_ bp pp pl me w S J P kv c sn X G)(hF:∀x∈G,x∈F){e:Int}(he:(P.rb:Int)=e):Sp Tryz.prog 20 #[vP pp 0] [] F (λ u H'=>u=vI e /\ H'=[]):=he ▸ Og h hF
theorem yZ(F:HL)(hE0:pH F)(U9:cG F):Sp Tryz.prog 21 #[] [] F (λ u H'=>u=.bool true /\ H'=[]):=by
 refine aat Tryz.func21 rfl mn (A:=[]) (Ts:=[]) rfl λ w0=>?_;refine ae 17 (ow 0 16) λ n1=>aaj 1 (.rows 9 1 (mf (cC (n1+0)).bods) 90 (0,0))<|aai (Hp:=[]) (Tp:=[]) [] [] (rX 0 0 _ (by decide) (by decide) (az hE0)) ?_;rintro _ ⟨b2,T3⟩ ⟨rfl,Wp⟩;dsimp only at Wp
 replace Wp:Book2 3 (aq 0 5).toNat (aq 0 5).toNat b2 T3:=Wp
 refine ae 7 (ow 0 16) λ _=>aai (Hp:=[]) (Tp:=[]) [] [] (lE (cC (n1+0)) [] [] b2 1 0 3 (f6 3 (aq 0 5).toNat (aq 0 5).toNat 0) _ (CN (av 1)) (yY _ _) (show 1 <= 1 by decide) (show 0 <= 1000000 by decide) (show 0 <= 1000000 by decide) (show (60:Int).toNat <= 1000000 by decide) (yX _) rfl (by decide) (by decide) rfl rfl) ?_;rintro _ ⟨p5,T6⟩ ⟨rfl,hr7⟩;dsimp only at hr7;refine ae 7 (ow 0 16) λ _=>aai (Hp:=[]) (Tp:=[]) [] [] (lE (cC (n1+0)) [] [] b2 1 0 3 (f6 3 (aq 0 5).toNat (aq 0 5).toNat 0) _ (CN (av 1)) (yY _ _) (show 1 <= 1 by decide) (show 0 <= 1000000 by decide) (show 0 <= 1000000 by decide) (show (60:Int).toNat <= 1000000 by decide) (yX _) rfl (by decide) (by decide) rfl rfl) ?_;rintro _ ⟨p8,T9⟩ ⟨rfl,UY⟩;dsimp only at UY;refine ae 20 [] λ _=>aai [] [1] (JD hr7 (λ i hi=>lB Wp (au 1) (by decide) (by decide) (t:=0+i) (by omega)) (az U9)) ?_;rintro _ ⟨P11,ZC⟩ ⟨rfl,WZ,Zq,Xc,Zd⟩;dsimp only at WZ Zq Xc Zd
 replace WZ:PeerR [] [] b2 p5 1 0 3 (cC (n1+0)) (f6 3 (aq 0 5).toNat (aq 0 5).toNat 0) P11 ([]) 3 0 none ZC:=WZ
 refine ae 10 [] λ _=>aai [] [0] (Ok WZ Zq Xc Zd (λ i hi=>lB Wp (au 1) (by decide) (by decide) (t:=0+i) (by omega)) (az U9)) ?_;rintro _ Sx ⟨rfl,aen⟩;refine ae 10 [] λ _=>aai [] [1] (JD UY (λ i hi=>lB Wp (au 1) (by decide) (by decide) (t:=0+i) (by omega)) (az U9)) ?_;rintro _ ⟨P19,UP⟩ ⟨rfl,WY,ab7,YW,abT⟩;dsimp only at WY ab7 YW abT
 replace WY:PeerR [] [] b2 p8 1 0 3 (cC (n1+0)) (f6 3 (aq 0 5).toNat (aq 0 5).toNat 0) P19 ([]) 3 0 none UP:=WY
 refine ae 7 [] λ Vt=>aaj 0 (.rows 3 1 (aQ cV [⟨0,0,0⟩]) 40 (0,0))<|aai [] [1] (JE (q:=(Vt+0)) (r:=⟨0,0,0⟩) aen Xc (by decide) (av 0)) ?_;rintro _ T26 ⟨rfl,aem⟩;refine ae 7 [] λ n28=>aaj 0 (.rows 3 1 (aQ cV [⟨1,0,0⟩]) 40 (0,0))<|aai [] [1] (JE (q:=(n28+0)) (r:=⟨1,0,0⟩) WY YW (by decide) (av 0)) ?_;rintro _ XA ⟨rfl,aek⟩;refine ae 5 [] λ _=>aai [] [1] (JF (n:=1) (r:=⟨0,0,0⟩) aem Zq Xc Zd (by decide) (λ i hi=>lB Wp (au 1) (by decide) (by decide) (t:=0+i) (by omega)) (az U9) (by decide)) ?_;rintro _ ⟨P31,c32,T33⟩ ⟨rfl,aa4,Xi⟩;dsimp only at aa4 Xi
 replace Xi:P31.rb=0:=Xi.trans (by decide)
 refine ae 10 [] λ _=>aai [] [1] (JF (n:=4) (r:=⟨1,0,0⟩) aek ab7 YW abT (by decide) (λ i hi=>lB Wp (au 1) (by decide) (by decide) (t:=0+i) (by omega)) (az U9) (by decide)) ?_;rintro _ ⟨P36,c37,T38⟩ ⟨rfl,aa3,Xh⟩;dsimp only at aa3 Xh
 replace Xh:P36.rb=1:=Xh.trans (by decide)
 refine ae 37 [] λ _=>aah (CO aa4 (au 1) (by rw[Xi]))<|ae 4 [] λ _=>aah (CO aa3 (au 0) (by rw[Xh]))<|ae 5 [] λ _=>?_;exact aap [] [] [] ⟨rfl,rfl⟩
def plW(S:Setup)(J:Nat -> Nat × Int)(xss:List (List Inp))(n:Nat):List Eff:=plE (rG S.std J xss) ⟨br S S.nb,[],0⟩ n
theorem CP(S:Setup)(rs_:List Bx)(ds_:List Dr)(bp n cap:Nat)(J:Nat -> Nat × Int)(A:Option Addr)(rs:List Rw)(xss:List (List Inp))(F:HL)(hS:SetIn F S)(hM:MapIn F S rs_ ds_)(hV:SetV S)(RV:S.rn <= 1000000)(UM:S.dn <= 1000000)(IT:(sizeOf S).toNat <= 1000000)(hv:ln S rs_ ds_=0)(hE:cG F)(hr:RowL jH 38 F A n rs)(hw:RwsIn F rs xss)(h9:n <= 50)(L_:∀i,i<n -> RowOk S.players (xss.getD i []))(RH:∀i,i<n -> (J i).1<5 /\ AtOk F bp (i:Int) (J i)){W:List Int}(hW:WS S J xss n=W) :
  Sp Tryz.prog 32 #[Setup.v S,vP bp 0,.slice A n cap] (ap [] []) F (λ u H'=>∃x:(Nat × Option Addr × Nat) × HL,H'=ap [(x.1.1,.rows 1 W.length (aU W) 3 (0,0))] [x.2] /\ (SlIs nP 111 (plW S J xss n) x.1.2.1 x.1.2.2 x.2 /\ u=.tuple #[vS x.1.1 0 W.length W.length,.slice x.1.2.1 (plW S J xss n).length x.1.2.2,vI 0])):=by
 subst hW;have hp:=hV.pl;have g_:∀S2,SetEq S S2 -> ∀i,i<n -> TkOk S2 (J i) (xss.getD i []) (kV (rG S2 J xss) ⟨br S S.nb,[],0⟩ i):=λ S2 h2 i hi=>Mn (h2.setV hV) (vH hV h2) J n (by omega) (λ i hi=>by rw[h2.pl];exact L_ i hi) i hi;have WT:∀S2,SetEq S S2 -> ∀i,i<n -> (kV (rG S2 J xss) ⟨br S S.nb,[],0⟩ i).get 0=(i:Int):=λ S2 h2 i hi=>(CE (h2.setV hV) (vH hV h2) J n (by omega) (λ i hi=>by rw[h2.pl];exact L_ i hi) i (by omega)).t0;refine(Lv S rs_ ds_ bp n cap J A rs xss F hS hM (by have:=hV.nb;omega) RV UM IT hv hE hr hw (λ k hk=>by have:=(L_ k hk).1;omega) (by omega) (by omega) (λ S2 h2 i hi _=>⟨.inl (g_ S2 h2 i hi),(RH i hi).1,by rw[WT S2 h2 i hi];exact(RH i hi).2⟩)).mono λ u H' h=>?_;obtain⟨⟨⟨S2,q,A2,c2⟩,C,E⟩,rfl,h2,h3⟩:=h;dsimp only at h2 h3;rcases h3 with ⟨_,h4,h5,h6⟩|⟨i,hi,_,h4,_⟩
 ·have e1:=rT (Jc h2 (gz S) J xss) ⟨br S S.nb,[],0⟩ n;have e2:=Jb (Jc h2 (gz S) J xss) ⟨br S S.nb,[],0⟩ n;rw[e1] at h4 h6;rw[e2] at h5 h6;subst h4;exact⟨((q,A2,c2),E),by simp[ap,WS],h5,h6⟩
 ·exact absurd (g_ S2 h2 i hi).ok h4
section
variable {S:Setup} {J:Nat -> Nat × Int} {w:Nat} {TR:Nat -> List Inp} {P:PS (List Inp)} {V:List (List Inp)} {m k:Nat}
theorem PeerI.rowsR{xs:List Int}(h:PeerI S J w (uo S xs) P V m k){n:Nat}(hn:P.rows.length=n):P.rows=aB S.players xs n:=by
 have:=h.rows;rw[hn] at this;exact this
end
theorem E8{pl:Int}{xs:List Int}{n k:Nat}(h:k <= n):(aB pl xs n).take k=aB pl xs k:=by
 unfold aB;rw[<- List.map_take,List.take_range,Nat.min_eq_left h]
theorem vU{S:Setup}{J:Nat -> Nat × Int}{xs:List Int}{n k:Nat}(h:k <= n):WS S J (aB S.players xs n) k=WS S J (aB S.players xs k) k:=by
 rw[<- vJ S J (aB S.players xs n) k,E8 h]
theorem za(S:Setup)(A:Option Addr)(n cap:Nat)(xs:List Int)(cnt:Nat)(F:HL)(hl:ArgL F A n xs)(hn:n <= 9223372036854775807)(hp:1 <= S.players /\ S.players <= 1000000)(ZW:cnt <= 19){ci:Int}(hci:ci=(cnt:Int)):Sp Tryz.prog 33 #[Setup.v S,.slice A n cap,vI ci] (ap [] []) F (λ u H'=>∃x:(Option Addr × Nat × List Rw) × HL × HL,H'=ap [] [x.2.1,x.2.2] /\ (u=.slice x.1.1 cnt x.1.2.1 /\ SlIs jH 38 x.1.2.2 x.1.1 x.1.2.1 x.2.1 /\ x.1.2.2.length=cnt /\ RwsT x.1.2.2 (aB S.players xs cnt) x.2.2)):=by subst hci;exact Be S A n cap xs cnt F hl hn hp ZW
theorem Fa(A0:Option Addr)(n0 c0:Nat)(xs:List Int)(Z7:Option Addr)(Ye c4a:Nat)(rW:List Int)(A5a:Option Addr)(n5a c5a:Nat)(x5a:List Int)(b0 b1 i2 i3:Int)(F:HL)(hE0:pH F)(U9:cG F)(UL:ArgD F A0 n0 xs)(Sd:n0 <= 9223372036854775807)(S_:ArgD F Z7 Ye rW)(YG:Ye <= 9223372036854775807)(abm:ArgD F A5a n5a x5a)(aeE:n5a <= 9223372036854775807)(hb0:mh b0)(Uu:mh b1)(VT:mh i2)(hi3:mh i3):Sp Tryz.prog 7 #[.slice A0 n0 c0,.agg #[vI b0,vI b1],vI i2,vI i3,.slice Z7 Ye c4a,.slice A5a n5a c5a] [] F (λ u H'=>u=.bool true /\ H'=[]):=by
 refine aat Tryz.func7 rfl mn (A:=[]) (Ts:=[]) rfl λ w0=>?_;refine ae 9 [] λ n1=>aai (Hp:=[]) (Tp:=[]) [] [] (UL.up.use λ F_ h_=>D7 A0 n0 c0 xs _ h_ Sd) ?_;rintro _ ⟨S,TS⟩ ⟨rfl,hG⟩;dsimp only at hG;have hF:=N4 UL hG;have hpl:=hF.pl;have Vh:=hF.nb;have RV:=hF.rn;have UM:=hF.dn;have IT:=hF.sz;have TN:=jP S S.nb;have hV:SetV S:=UL.ex.elim λ _ h_=>setV h_ hG;obtain⟨pl,aet⟩:∃pl:Nat,S.players=(pl:Int):=⟨S.players.toNat,by omega⟩;have Zg:∀t,RowOk S.players (uo S rW t):=λ t=>S_.ex.elim λ _ h_=>CF h_ (by omega) _;refine ae 10 (ow 0 16++[.own 2,.own 2]) λ n2=>aai (Hp:=[]) (Tp:=[]) [] [] (rX b0 b1 _ hb0 Uu (az hE0)) ?_;rintro _ ⟨b3,T4⟩ ⟨rfl,X1⟩;dsimp only at X1;obtain⟨BY,agf,U4⟩:∃j,(aq b0 5).toNat=j /\ j<5:=⟨_,rfl,by have h_:=b8 (n:=b0) hb0 5 (by decide);omega⟩;obtain⟨By,age,U2⟩:∃j,(aq b1 5).toNat=j /\ j<5:=⟨_,rfl,by have h_:=b8 (n:=b1) Uu 5 (by decide);omega⟩;rw[agf,age] at X1;refine ae 4 [] λ _=>aak [] []<|ag [] [0,1,2,3,6,4] (ow 0 17) ?_;obtain⟨ar6,afv,ahR⟩:∃k:Nat,aq i2 S.players=(k:Int) /\ (k:Int)<S.players:=⟨(aq i2 S.players).toNat,by have h_:=b8 (n:=i2) VT S.players (by omega);omega,by have h_:=b8 (n:=i2) VT S.players (by omega);omega⟩;refine aac [] 5 (λ X_=>(yJ afv (by omega) _)) ?_;obtain⟨ZA,afu,ahQ⟩:∃k:Nat,aq i3 12=(k:Int) /\ (k:Int)<12:=⟨(aq i3 12).toNat,by have h_:=b8 (n:=i3) hi3 12 (by decide);omega,by have h_:=b8 (n:=i3) hi3 12 (by decide);omega⟩;refine aac [] 7 (λ X_=>(yJ afu (by decide) _))<|aD [] [8] [.nw] [bx (1+(ZA:Int))]<|aae 9 (aaf [] (Hp:=[]) (Tp:=[]) [] [] (lE S qM (kj (kv xs 3 % 3).toNat) b3 pl ar6 (1+ZA) (f6 3 BY By 0) _ (hG.sin _ (av 1) (au 1)).cl (hG.maps.2 _ (au 1)) (by omega) (by omega) (by omega) (by omega) hF.val aet (by omega) (by omega) (mi:=(ar6:Int)) (wi:=(1+(ZA:Int))) (by omega) (by omega)) ?_);rintro _ ⟨p8,T9⟩ ⟨rfl,UY⟩;dsimp only at UY;have ab5:PeerI S (f6 3 BY By 0) (1+ZA) (uo S rW) (⟨⟨br S S.nb,[],0⟩,0,[],[],0,[],[],0⟩:PS (List Inp)) [] 0 0:=yT S (f6 3 BY By 0) (1+ZA) (uo S rW) 0;obtain⟨Pp8,Zw⟩:∃x,(⟨⟨br S S.nb,[],0⟩,0,[],[],0,[],[],0⟩:PS (List Inp))=x:=⟨_,rfl⟩;rw[Zw] at UY ab5;have aiN:([]:List (List Inp)).length=0:=rfl;have agG:Pp8.rows.length=0:=by rw[<- Zw];rfl
 have agH:Pp8.rb=0:=by subst Zw;rfl
 refine ag [] [10] []<|aad<|ae 14 [] λ _=>aai (Hp:=[]) (Tp:=[]) [] [] (abm.up.use λ F_ h_=>JC A5a n5a c5a x5a F_ h_ aeE) ?_;rintro _ ⟨US,A12,Zy,XB⟩ ⟨aeW,rfl,Ul⟩;dsimp only at aeW Ul;refine ae 20 [] λ _=>aao<|aan (σ:=Nat × PS (List Inp) × List (Int × Value × Nat) × Nat × List (List Inp) × Nat × Nat × Int × Option Addr × Nat × HL × HL) (λ ⟨i_,P_,kv_,c_,V_,m_,s_,Yh,Aw_,nw_,Tw_,G_⟩=>⟨[(4,.slice Z7 Ye c4a),(13,vP (n2+0) 0),(14,vP b3 0),(15,vP p8 0),(16,.slice A12 US Zy),(17,vI Yh),(18,.slice Aw_ nw_ nw_),(19,vI (i_:Int))],[((n2+0),.lit (Setup.l S) 31 (0,0)),(S.bb,.rows 9 S.bR (mf S.bods) 90 (0,0)),((n1+0),.lit [vI b0,vI b1] 55 (0,0))],[G_,XB,Tw_,T4,TS],i_ <= US /\ PeerR qM (kj (kv xs 3 % 3).toNat) b3 p8 pl ar6 (1+ZA) S (f6 3 BY By 0) P_ kv_ c_ s_ none G_ /\ PeerI S (f6 3 BY By 0) (1+ZA) (uo S rW) P_ V_ m_ i_ /\ c_ <= 50*i_ /\ s_ <= min V_.length P_.rows.length /\ ((Yh=-1 /\ Aw_=none /\ nw_=0 /\ Tw_=[]) \/ (Yh=(s_:Int) /\ ∃q:Nat,Aw_=some ⟨q,0,none⟩ /\ nw_=(WS S (f6 3 BY By 0) (aB S.players rW s_) s_).length /\ Tw_=[(q,.rows 1 (WS S (f6 3 BY By 0) (aB S.players rW s_) s_).length (aU (WS S (f6 3 BY By 0) (aB S.players rW s_) s_)) 3 (0,0))])),US-i_⟩) (0,Pp8,[],0,([]:List (List Inp)),0,0,-1,none,0,[],T9) [0,1,2] [2,1,0,3,4] (⟨aa9 _,UY,ab5,aa9 _,aa9 _,.inl ⟨rfl,rfl,rfl,rfl⟩⟩) ?_;rintro⟨i_,P_,kv_,c_,V_,m_,s_,Yh,Aw_,nw_,Tw_,G_⟩ ⟨VS,XZ,S6,WE,RA,hw_⟩ Yf;have aeP:=S6.lim;have ad1:=S6.vlen;refine ae 9 [] λ _=>aal ((i_:Int)<(US:Int)) 48 (λ Xy=>?_) λ Xy=>?_
 ·refine ae 6 [] λ _=>?_;have V8:=E6 abm (k:=US) (by omega) (i:=i_) (by omega);obtain⟨ba_,TE,fl_,rfl,rfl,aku,aeQ,abC⟩:=Ul.resolve_left (λ h_=>by have X4:=congrArg List.length h_.2.2.1;rw[iI,List.length_nil] at X4;omega);rw[iI] at aeQ abC;rw[<- Bf abC (by omega)] at V8;refine sT 1 (x:=(ba_,.rows 3 (TE+Zy) (aQ nl fl_) 54 (0,0)))<|aak [7] []<|aD [] [0,1,2,3,4,5,6] (ow 1 16++[.ix i_,.row 0 (TE+i_) 0,.row 0 (TE+i_) 1,.row 0 (TE+i_) 2]) [((TE*3+i_*3)+2)=(TE+i_)*3+2 /\ (TE+i_)<(TE+Zy),((TE*3+i_*3)+1)=(TE+i_)*3+1 /\ (TE+i_)<(TE+Zy),(TE*3+i_*3)=(TE+i_)*3+0 /\ (TE+i_)<(TE+Zy),(i_:Int)=((i_:Nat):Int) /\ i_<US]<|aae 7 (aaf [] [] [0] (Oj Z7 Ye c4a rW (fl_.getD (TE+i_) nl.dflt) XZ S6 rfl Zg hV (by omega) (by omega) (by omega) WE (λ i hi=>lB X1 (au 1) U4 U2 (t:=0+i) (by omega)) (az U9) S_.up YG V8) ?_);rintro _ ⟨⟨UE,e21,Z5,Yi,c24,Z1,m26⟩,UC⟩ ⟨rfl,UU,Is,Xf,aca⟩;dsimp only at UU Is Xf aca;have agW:=Is.vlen;have ahx:=Is.lim;unfold DoF LK at aca;refine aad<|ae 4 [] λ _=>aah (yN UU (au 0) (Is.t0 hV (by have h_:=Is.vlen;have R5:=Is.lim;omega)))<|ae 1 [] λ _=>aah (AW UU (au 0))<|ae 6 [] λ _=>?_;obtain⟨iS,akd⟩:∃k:Nat,min Z1.length Z5.rows.length=k:=⟨_,rfl⟩;refine aN 20 (congrArg (λ v_=>(vI v_:Value)) (show (if (Z5.rows.length:Int)<(Z1.length:Int) then (Z5.rows.length:Int) else (Z1.length:Int))=(iS:Int) by split <;> omega)) ?_;rcases hw_ with ⟨rfl,rfl,rfl,rfl⟩|⟨aj8,qw_,rfl,rfl,rfl⟩
  ·refine ae 6 [] λ _=>aal ((iS:Int)<(-1)) 66 (λ Ws=>?_) λ Ws=>?_
   ·(exfalso;omega)
   ·refine ae 11 [] λ _=>aal ((iS:Int)>(-1)) 69 (λ Zu=>?_) λ Zu=>?_
    ·refine ae 2 [] λ _=>aak [] []<|ag [] [0,1,2,3,4] (ow 1 32)<|aae 5 (aaf [] (Hp:=[]) (Tp:=[]) [] [] (S_.up.use λ F_ h_=>za S Z7 Ye c4a rW iS F_ h_ YG (by omega) (by omega) (ci:=(iS:Int)) (by omega)) ?_);rintro _ ⟨⟨A34,c35,adw⟩,E37,T38⟩ ⟨rfl,aaW,abo,abZ⟩;dsimp only at aaW abo abZ;have VX:∀i,i<iS -> RowOk S.players ((aB S.players rW iS).getD i []):=λ i hi=>S_.ex.elim λ _ h_=>jd h_ (by omega) iS i hi;have adZ:=AU (J:=(f6 3 BY By 0)) (xss:=aB S.players rW iS) hV (gz S) (n:=iS) (by omega) (λ i hi=>S_.ex.elim λ _ h_=>jd h_ (by omega) iS i hi) (aa0 _);have ahw:(WS S (f6 3 BY By 0) (aB S.players rW iS) iS).length <= 1000000:=by omega
     refine aae 6 (aaf [] (Hp:=[]) (Tp:=[]) [] [] (CP S qM (kj (kv xs 3 % 3).toNat) b3 iS c35 (f6 3 BY By 0) A34 adw (aB S.players rW iS) _ (hG.sin _ (av 2) (au 5)) (hG.maps.2 _ (au 5)) hV (by omega) (by omega) (by omega) hF.val (az U9) (aaW.rowN (au 0) abo) (abZ _ (au 1)) (by omega) VX (λ i hi=>lB X1 (au 4) U4 U2 (t:=0+i) (by omega)) rfl) ?_);rintro _ ⟨⟨q43,A44,c45⟩,E46⟩ ⟨aec,rfl⟩;dsimp only at aec;refine ag [] [7,8,9,10,11,12,13] []<|aad<|ae 25 [] λ _=>aai [] [3] (pi (k0:=iS) (W:=(WS S (f6 3 BY By 0) (aB S.players rW iS) iS)) UU (Is.t0 hV (by have h_:=Is.vlen;have R5:=Is.lim;omega)) (by omega) (by omega) hV (by omega) (Is.rowsOk Zg) (λ i hi=>lB X1 (au 4) U4 U2 (t:=0+i) (by omega)) (az U9) (by omega) (by rw[Is.rowsR rfl,vU (by omega)])) ?_;rintro _ ⟨q48,Wu⟩ ⟨rfl,aeb⟩;refine ae 1 [] λ _=>aah (u9 true q48 q43 ((WS S (f6 3 BY By 0) (aB S.players rW iS) iS).length) ((WS S (f6 3 BY By 0) (aB S.players rW iS) iS).length) ((WS S (f6 3 BY By 0) (aB S.players rW iS) iS).length) ((WS S (f6 3 BY By 0) (aB S.players rW iS) iS).length) ((WS S (f6 3 BY By 0) (aB S.players rW iS) iS).length) ((WS S (f6 3 BY By 0) (aB S.players rW iS) iS).length) (WS S (f6 3 BY By 0) (aB S.players rW iS) iS) (WS S (f6 3 BY By 0) (aB S.players rW iS) iS) _ (av 0) (av 1) (aa0 _) (aa0 _) (by omega) (acr ⟨rfl,λ t ht=>rfl⟩))<|aj 12 [.gen,.nw] [bx ((i_:Int)+1)] λ _=>sV 2<|sV 1 ?_;refine Yf (i_+1,Z5,Yi,c24,Z1,m26,iS,(iS:Int),some ⟨q43,0,none⟩,(WS S (f6 3 BY By 0) (aB S.players rW iS) iS).length,[(q43,.rows 1 ((WS S (f6 3 BY By 0) (aB S.players rW iS) iS).length) (aU (WS S (f6 3 BY By 0) (aB S.players rW iS) iS)) 3 (0,0))],Wu) [1,2,3] [2,1,0,7,8] ?_
     try dsimp only
     exact⟨⟨by omega,aeb,Is,Xf,by omega,.inr ⟨by omega,_,rfl,rfl,rfl⟩⟩,by omega⟩
    ·(exfalso;omega)
  ·refine sT 1 (x:=(qw_,.rows 1 ((WS S (f6 3 BY By 0) (aB S.players rW s_) s_).length) (aU (WS S (f6 3 BY By 0) (aB S.players rW s_) s_)) 3 (0,0)))<|ae 6 [] λ _=>aal ((iS:Int)<Yh) 66 (λ Uz=>?_) λ Uz=>?_
   ·(exfalso;omega)
   ·refine ae 11 [] λ _=>aal ((iS:Int)>Yh) 69 (λ h52=>?_) λ h52=>?_
    ·refine ae 2 [] λ _=>aak [] []<|ag [] [0,1,2,3,4] (ow 2 32)<|aae 5 (aaf [] (Hp:=[]) (Tp:=[]) [] [] (S_.up.use λ F_ h_=>za S Z7 Ye c4a rW iS F_ h_ YG (by omega) (by omega) (ci:=(iS:Int)) (by omega)) ?_);rintro _ ⟨⟨A53,c54,adu⟩,E56,T57⟩ ⟨rfl,aaV,abn,abY⟩;dsimp only at aaV abn abY;have VX:∀i,i<iS -> RowOk S.players ((aB S.players rW iS).getD i []):=λ i hi=>S_.ex.elim λ _ h_=>jd h_ (by omega) iS i hi;have adY:=AU (J:=(f6 3 BY By 0)) (xss:=aB S.players rW iS) hV (gz S) (n:=iS) (by omega) (λ i hi=>S_.ex.elim λ _ h_=>jd h_ (by omega) iS i hi) (aa0 _);have ahv:(WS S (f6 3 BY By 0) (aB S.players rW iS) iS).length <= 1000000:=by omega
     refine aae 6 (aaf [] (Hp:=[]) (Tp:=[]) [] [] (CP S qM (kj (kv xs 3 % 3).toNat) b3 iS c54 (f6 3 BY By 0) A53 adu (aB S.players rW iS) _ (hG.sin _ (av 3) (au 4)) (hG.maps.2 _ (au 4)) hV (by omega) (by omega) (by omega) hF.val (az U9) (aaV.rowN (au 0) abn) (abY _ (au 1)) (by omega) VX (λ i hi=>lB X1 (au 3) U4 U2 (t:=0+i) (by omega)) rfl) ?_);rintro _ ⟨⟨q62,A63,c64⟩,E65⟩ ⟨aea,rfl⟩;dsimp only at aea;refine ag [] [7,8,9,10,11,12,13] []<|aad<|ae 25 [] λ _=>aai [] [3] (pi (k0:=iS) (W:=(WS S (f6 3 BY By 0) (aB S.players rW iS) iS)) UU (Is.t0 hV (by have h_:=Is.vlen;have R5:=Is.lim;omega)) (by omega) (by omega) hV (by omega) (Is.rowsOk Zg) (λ i hi=>lB X1 (au 3) U4 U2 (t:=0+i) (by omega)) (az U9) (by omega) (by rw[Is.rowsR rfl,vU (by omega)])) ?_;rintro _ ⟨q67,T68⟩ ⟨rfl,ad_⟩;refine ae 1 [] λ _=>aah (u9 true q67 q62 ((WS S (f6 3 BY By 0) (aB S.players rW iS) iS).length) ((WS S (f6 3 BY By 0) (aB S.players rW iS) iS).length) ((WS S (f6 3 BY By 0) (aB S.players rW iS) iS).length) ((WS S (f6 3 BY By 0) (aB S.players rW iS) iS).length) ((WS S (f6 3 BY By 0) (aB S.players rW iS) iS).length) ((WS S (f6 3 BY By 0) (aB S.players rW iS) iS).length) (WS S (f6 3 BY By 0) (aB S.players rW iS) iS) (WS S (f6 3 BY By 0) (aB S.players rW iS) iS) _ (av 0) (av 1) (aa0 _) (aa0 _) (by omega) (acr ⟨rfl,λ t ht=>rfl⟩))<|aj 12 [.gen,.nw] [bx ((i_:Int)+1)] λ _=>sV 3<|sV 1 ?_;refine Yf (i_+1,Z5,Yi,c24,Z1,m26,iS,(iS:Int),some ⟨q62,0,none⟩,(WS S (f6 3 BY By 0) (aB S.players rW iS) iS).length,[(q62,.rows 1 ((WS S (f6 3 BY By 0) (aB S.players rW iS) iS).length) (aU (WS S (f6 3 BY By 0) (aB S.players rW iS) iS)) 3 (0,0))],T68) [2,3,4] [2,1,0,6,7] ?_
     try dsimp only
     exact⟨⟨by omega,ad_,Is,Xf,by omega,.inr ⟨by omega,_,rfl,rfl,rfl⟩⟩,by omega⟩
    ·obtain rfl:s_=iS:=by omega
     refine ae 6 [] λ _=>?_;have adX:=AU (J:=(f6 3 BY By 0)) (xss:=aB S.players rW s_) hV (gz S) (n:=s_) (by omega) (λ i hi=>S_.ex.elim λ _ h_=>jd h_ (by omega) s_ i hi) (aa0 _);have ahu:(WS S (f6 3 BY By 0) (aB S.players rW s_) s_).length <= 1000000:=by omega
     refine aai [] [0] (pi (k0:=s_) (W:=(WS S (f6 3 BY By 0) (aB S.players rW s_) s_)) UU (Is.t0 hV (by have h_:=Is.vlen;have R5:=Is.lim;omega)) (by omega) (by omega) hV (by omega) (Is.rowsOk Zg) (λ i hi=>lB X1 (au 0) U4 U2 (t:=0+i) (by omega)) (az U9) (by omega) (by rw[Is.rowsR rfl,vU (by omega)])) ?_;rintro _ ⟨q71,T72⟩ ⟨rfl,ad9⟩;refine ae 1 [] λ _=>aah (u9 true q71 qw_ ((WS S (f6 3 BY By 0) (aB S.players rW s_) s_).length) ((WS S (f6 3 BY By 0) (aB S.players rW s_) s_).length) ((WS S (f6 3 BY By 0) (aB S.players rW s_) s_).length) ((WS S (f6 3 BY By 0) (aB S.players rW s_) s_).length) ((WS S (f6 3 BY By 0) (aB S.players rW s_) s_).length) ((WS S (f6 3 BY By 0) (aB S.players rW s_) s_).length) (WS S (f6 3 BY By 0) (aB S.players rW s_) s_) (WS S (f6 3 BY By 0) (aB S.players rW s_) s_) _ (av 0) (av 1) (aa0 _) (aa0 _) (by omega) (acr ⟨rfl,λ t ht=>rfl⟩))<|aj 12 [.gen,.nw] [bx ((i_:Int)+1)] λ _=>sV 2<|sV 1 ?_;refine Yf (i_+1,Z5,Yi,c24,Z1,m26,s_,Yh,some ⟨qw_,0,none⟩,(WS S (f6 3 BY By 0) (aB S.players rW s_) s_).length,[(qw_,.rows 1 ((WS S (f6 3 BY By 0) (aB S.players rW s_) s_).length) (aU (WS S (f6 3 BY By 0) (aB S.players rW s_) s_)) 3 (0,0))],T72) [1,2,3] [2,1,0,3,4] ?_
     try dsimp only
     exact⟨⟨by omega,ad9,Is,Xf,by omega,.inr ⟨by omega,_,rfl,rfl,rfl⟩⟩,by omega⟩
 ·refine ae 8 [] λ _=>aah (yZ _ (az hE0) (az U9))<|ae 3 [] λ _=>?_;exact aap [] [] [] ⟨rfl,rfl⟩
open Go.ChangeShapes Go.WideShapes Go.ChangeAt
theorem JG:ownKnob Tryz.prog.godebug=none:=by kernel_rfl
theorem JH:laidOutB Tryz.prog=true:=by kernel_rfl
theorem kc{n:Int}(h:(Lit.int .i64 n).wf=true):-9223372036854775808 <= n /\ n <= 9223372036854775807:=bounds_i64 h
section
variable {H:Type} {enc:TypeId × Value -> H} {P:Program} {W W':World}
theorem mI(hl:laidOutB P=true)(hb:Below W.heap.size W W'):∀ {ts:List TypeId} {vs:List Value} {ds:List (DataW H)} {ps:List MemPlace},(∀t∈ts,P.readableRec t=true /\ t<P.types.size) ->
  DataW.TrodAll enc P W 0 (λ _=>true) true ts vs ds ps -> (∀x∈ps,x.block<W.heap.size) -> DataW.TrodAll enc P W' 0 (λ b=>decide (b<W.heap.size)) true ts vs ds ps
 | [],_,_,_,_,h,_=>by
  obtain⟨rfl,rfl,rfl⟩:=trodAll_nil h;exact trodAll_mk0
 | t::ts,_,_,_,ht,h,iF=>by
  obtain⟨v,vs1,d,ds1,a,b,rfl,rfl,rfl,h1,h2⟩:=trodAll_cons h;have h3:=ht t (by simp);exact trodAll_cons_mk (Below.trod hl h3.1 h3.2 h1 hb (λ x hx=>iF x (by simp[hx]))) (mI hl hb (λ t h=>ht t (aaA _ h)) h2 (λ x hx=>iF x (by simp[hx])))
theorem JI{f:Func}{s:ChangeSpec}{apart fresh handsOn:Bool}{args:Array Value}{v:Value}{ds:List (DataW H)}{before:List MemPlace}(hl:laidOutB P=true)
  (hts:∀t∈f.params.toList,P.readableRec t=true /\ t<P.types.size)
  (hW:DataW.Whole enc P f.params.toList s.vars apart W args.toList ds [] before) (hs:s.vars=[])
  (hA:DataW.TrodAll enc P W 0 (λ _=>true) true f.params.toList args.toList ds before)
  (S8:∀ (b:Nat) (sp:Nat -> Bool) (hd:Bool),DataW.TrodAll enc P W' b sp hd f.resultTypes.toList (v.resultList f.resultTypes.size) (s.fn H (ds++[])).results [])
  (UO:(s.fn H (ds++[])).args=ds) (aaO:∀sp,DataW.TrodVars enc P W' sp s.vars (s.fn H (ds++[])).vars []) (hb:Below W.heap.size W W') :
  s.post enc P f apart fresh handsOn false W args v W':=by
 refine⟨ds,[],before,[],before,[],hW,S8 _ _ _,?_,aaO _,hb.frame _,λ h=>by cases h⟩;rw[UO];exact mI hl hb hts hA (λ x hx=>hW.lt x hx)
end
def rY:Obj -> Blk
 | .cells cs ty fz=>.rows 1 cs.size (λ i _=>cs.getD i default) ty fz
 | o=>.obj o
theorem ma(o:Obj):(rY o).den=o:=by
 cases o with
 | cells cs ty fz =>
  show Obj.cells ⟨bD 1 (λ i _=>cs.getD i default) cs.size⟩ ty fz=_;congr 1;have e:bD 1 (λ i _=>cs.getD i default) cs.size=cs.toList:=by
   refine ke (by simp) ?_;intro i k hi hk;obtain rfl:k=0:=by omega
   simp[Array.getD,hi]
  rw[e]
 | _=>rfl
def lF(w:World):HL:=List.ofFn (λ k:Fin w.heap.size=>(k.1,rY w.heap[k.1]))
theorem rZ{w:World}{k:Nat}{o:Obj}(h:w.heap[k]?=some o):(k,rY o)∈lF w:=by
 obtain⟨hk,he⟩:=Array.getElem?_eq_some_iff.1 h;exact List.mem_ofFn.2 ⟨⟨k,hk⟩,by simp[he]⟩
theorem Bh(w:World):Rel (lF w) w:=by
 refine⟨λ x hx=>?_,?_⟩
 ·obtain⟨k,rfl⟩:=List.mem_ofFn.1 hx;simp[ma]
 ·unfold lF;rw[List.map_ofFn];have e:List.ofFn ((λ x:Nat × Blk=>x.1) ∘ λ k:Fin w.heap.size=>(k.1,rY w.heap[k.1]))=List.range w.heap.size:=by
   apply List.ext_getElem
   ·simp
   ·intro i h1 h2;simp
  rw[e];exact List.nodup_range
theorem Fb{P:Program}{f:FuncId}{args:Array Value}{v:Value}(w:World)(h:Sp P f args [] (lF w) (λ u H'=>u=v /\ H'=[])):Calls P f args w λ e w'=>e=.returned v /\ Below w.heap.size w w':=by
 refine(h w (Bh w)).mono ?_;rintro e w' ⟨u,H',rfl,⟨rfl,rfl⟩,D_,hB⟩;refine⟨rfl,hB.os,hB.tape,hB.output,hB.size,λ k hk=>?_⟩;have:=D_.holds (k,rY w.heap[k]) (by rw[List.nil_append];exact rZ (by simp[hk]));rw[this];simp[ma,hk]
theorem r7{H:Type}{enc:TypeId × Value -> H}{w:World}{r:Reach}{b0:Nat}{v:Value}{d:DataW H}{ps:List MemPlace}(IN:Value.okWide Tryz.prog w r b0 22 v)(hd:DataW.Trod enc Tryz.prog w 0 (λ _=>true) true 22 v d ps) :
  ∃ (A:Option Addr) (n cap:Nat) (xs:List Int),v=.slice A n cap /\ n <= 9223372036854775807 /\ ArgL (lF w) A n xs /\ n <= cap:=by
 obtain⟨a0,len,cap,rfl⟩:=okWide_slice Tryz.underlying22 IN;obtain⟨fuel,hf⟩:=hd;rcases open_ints Tryz.underlying22 Tryz.underlying3 (by kernel_rfl) hf with ⟨Vk,hx⟩|⟨a,ajf,f_,zs,Vk,_,hl,hm,hz,hx,OF,hwz⟩
 ·simp[Value.cells] at Vk;obtain⟨rfl,rfl,rfl⟩:=Vk;exact⟨none,0,0,[],rfl,by omega,.zero _,aa0 _⟩
 ·simp[Value.cells] at Vk;obtain⟨rfl,rfl,rfl⟩:=Vk;unfold maxLen at hm;simp at hz;rcases Nat.eq_zero_or_pos len with h0|YB
  ·subst h0;exact⟨some a,0,_,[],rfl,by omega,.zero _,aa9 _⟩
  ·have hlz:len <= zs.length:=by omega
   obtain⟨b,off,spot⟩:=a;have c0:=OF 0 (by omega);have UG:spot=none:=by
    cases spot with
    | none=>rfl
    | some s=>simp[Addr.add,World.cell?] at c0;split at c0 <;> simp at c0
   subst UG;have hc:∀i,i<zs.length -> w.cell? ⟨b,off+i,none⟩=some (.int .i64 (zs.getD i 0)):=λ i hi=>by
    have:=OF i hi;unfold Addr.add at this
    by_cases h:i=0
    ·subst h;simpa using this
    ·rw[if_neg h] at this;exact this
   have h0:=hc 0 (by omega);unfold World.cell? at h0;split at h0
   case h_2=>cases h0
   rename_i cs ty fz hb;refine⟨some ⟨b,off,none⟩,len,cap,zs.take len,rfl,by omega,?_,hl⟩;have hlen:(zs.take len).length=len:=by rw[abk];omega
   have Vk:∀k,k<len -> cs[off+k]?=some (vI ((zs.take len).getD k 0)):=λ k hk=>by
    have h1:=hc k (by omega);unfold World.cell? at h1;rw[show w.heap[(⟨b,off+k,none⟩:Addr).block]?=some (.cells cs ty fz) from hb] at h1;have h2:cs[off+k]?=some (.int .i64 (zs.getD k 0)):=by simpa using h1
    rw[h2];simp[aaJ,acm,hk]
   have aeK:=rZ hb;have hle:off+len <= cs.size:=by
    have h1:=Vk (len-1) (by omega);have h2:=(Array.getElem?_eq_some_iff.1 h1).1;omega
   have:=ArgL.cells (F:=lF w) b off cs.size (λ i _=>cs.getD i default) ty fz (zs.take len) aeK (by rw[hlen];exact hle) (λ k hk=>by
    rw[hlen] at hk;have h1:=Vk k hk;simp only[Array.getD_eq_getD_getElem?];rw[h1];rfl) (λ k hk=>by
    rw[hlen] at hk;have:(zs.take len).getD k 0∈zs:=by
     rw[aaJ,abt (by omega)];exact List.mem_of_mem_take (List.getElem_mem _)
    exact kc (hwz _ this))
   rw[hlen] at this;exact this
theorem sG{H:Type}{enc:TypeId × Value -> H}{P:Program}{w:World}{base:Nat}{sp:Nat -> Bool}{held:Bool}{fuel:Nat}{t e:TypeId}{n m:Nat}{k:IntKind}{fs:Array Field}{cs:List Value}{zs:List (List Int)}{p:List MemPlace}
  (ht:P.underlying t=some (.array n e)) (he:P.underlying e=some (.struct fs)) (XX:P.cellsOf e=m) (hct:P.cellsOf t=n*m) (hm:0<m) (RZ:fs.toList.length=m)
  (hf:∀ (j:Nat) f,fs.toList[j]?=some f -> P.underlying f.type=some (.int k) /\ P.cellsOf f.type=1 /\ f.offset=j) (hz:∀z∈zs,z.length=m)
  (h:DataW.trod enc P w base sp held fuel t cs=some (.agg (zs.map λ z=>.agg (z.map λ x=>.lit (.int k x))),p)) :
  cs.length=n*m /\ zs.length=n /\ ∀i j,i<n -> j<m -> cs[i*m+j]?=some (.int k ((zs.getD i []).getD j 0)):=by
 cases fuel with
 | zero=>simp[DataW.trod] at h
 | succ fuel =>
  simp only[DataW.trod,ht,XX,hct] at h;split at h
  case isFalse=>cases h
  rename_i hl;obtain⟨xs,hmm,hx⟩:=Option.map_eq_some_iff.1 h;have Yn:xs.map (·.1)=zs.map λ z=>(DataW.agg (z.map λ x=>.lit (.int k x)):DataW H):=by
   have:=congrArg Prod.fst hx;simpa using this
  have hxl:xs.length=n:=by simpa using Lib.mapM_length hmm
  have Ui:zs.length=n:=by
   have:=congrArg List.length Yn;simp at this;omega
  refine⟨hl,Ui,λ i j hi hj=>?_⟩;obtain⟨b,hb,ZR⟩:=Lib.mapM_at hmm i i (by simp[hi]);have hbz:b.1=.agg ((zs.getD i []).map λ x=>.lit (.int k x)):=by
   have h2:(xs.map (·.1))[i]?=some b.1:=by simp[hb]
   rw[Yn,List.getElem?_map,abt (by omega)] at h2;simp only[Option.map_some,Option.some.injEq] at h2;rw[<- h2,aaJ,abt (by omega)];rfl
  have hzi:(zs.getD i []).length=m:=by
   rw[aaJ,abt (by omega)];exact hz _ (List.getElem_mem _)
  cases fuel with
  | zero=>simp[DataW.trod] at ZR
  | succ fuel =>
   have Xb:=ZR;simp only[DataW.trod,he,XX] at Xb;split at Xb
   case isFalse=>cases Xb
   rename_i Of;obtain⟨ys,hym,hy⟩:=Option.map_eq_some_iff.1 Xb;have hys:ys.map (·.1)=(zs.getD i []).map λ x=>(DataW.lit (.int k x):DataW H):=by
    have:=congrArg Prod.fst hy;rw[hbz] at this;simpa using this
   have hfj:fs.toList[j]?=some (fs.toList[j]'(by omega)):=abt (by omega);obtain⟨c,hc,ZQ⟩:=Lib.mapM_at hym j _ hfj;obtain⟨f1,f2,f3⟩:=hf j _ hfj;rw[f2,f3] at ZQ;obtain⟨x,hcx,hcd,_⟩:=DataW.trod_int f1 ZQ;have h1:(((cs.drop (i*m)).take m).drop j).take 1=[.int k x]:=hcx;have h2:cs[i*m+j]?=some (.int k x):=by
    have:=congrArg (·[0]?) h1;simpa [acm,ack,hj] using this
   have h3:(ys.map (·.1))[j]?=some (DataW.lit (.int k x):DataW H):=by simp[hc,hcd]
   rw[hys,List.getElem?_map,abt (by omega)] at h3;simp only[Option.map_some,Option.some.injEq,DataW.lit.injEq,Lit.int.injEq,true_and] at h3;have h4:∀l:List Int,(hl:j<l.length) -> l[j]=l.getD j 0:=λ l hl=>by simp[aaJ,hl]
   rw[h2,<- h3,h4 _ (by omega)]
theorem kG{H:Type}{enc:TypeId × Value -> H}{a:Assume}{C:Checked}{os:Os}{f:FuncId}{fn:Func}{s:ChangeSpec}{conds:List PathCond}{apart fresh handsOn again:Bool}{X:World -> Array Value -> Prop}
  (hX:∀ (w w':World) (args:Array Value),w.heap=w'.heap -> X w args -> X w' args)
  (own:ownKnob C.prog.godebug=none) (started:os.Started) (Yd:C.prog.inits.idxOf? f=none) (YR:C.prog.funcs[f]?=some fn)
  (witness:∃ (w:World) (tape:Tape) (i:Input),w.os=os /\ (w.forCall tape i).Shaped C.prog /\ i.vars=[] /\ Input.okWide C.prog (w.forCall tape i) .any w.heap.size f i /\
   ((s.pre enc C.prog fn conds apart (w.forCall tape i).memory i.args /\ X (w.forCall tape i).memory i.args) /\ sizedMet enc C.prog fn (OpenSpec.ofChange s) apart (w.forCall tape i).memory i.args) /\ a.holds C.prog (lone (Frame.enter C.prog f i.args .normal) [] (w.forCall tape i)))
  (Wt:∀ (W:World) (base:Nat) (args:Array Value) (ds gs:List (DataW H)) (before:List MemPlace),W.ShapedOpen C.prog ->
   (∀ (j:Nat) t v,fn.params[j]?=some t -> args[j]?=some v -> Value.okWide C.prog W .any base t v) ->
   DataW.Whole enc C.prog fn.params.toList s.vars apart W args.toList ds gs before -> X W args ->
   Calls C.prog f args W λ e W'=>∃v,e=.returned v /\ s.post enc C.prog fn apart fresh handsOn again W args v W') :
  ReturnsInHanded a C os f .any (λ w args=>(s.pre enc C.prog fn conds apart w args /\ X w args) /\ sizedMet enc C.prog fn (OpenSpec.ofChange s) apart w args) (s.post enc C.prog fn apart fresh handsOn again):=by
 refine returnsInHanded_of_calls own started Yd witness ?_;intro w tape i _ Vf _ g_ RC ae6;obtain⟨_,_,_,fn',afb,_,_,_,_,IN⟩:=g_;have e:fn'=fn:=Option.some.inj (afb.symm.trans YR);subst e;obtain⟨⟨⟨ds,gs,before,hw,hc⟩,hx⟩,hz⟩:=RC;have Yp:=DataW.Whole.of_heap (w':=w.forCall tape i) (by rfl) hw;refine(Wt (w.forCall tape i) w.heap.size i.args ds gs before Vf IN Yp (hX _ _ _ (by rfl) hx)).mono λ e W' ⟨v,he,hp⟩=>?_;subst he;exact ChangeSpec.post_blind hp
def ceZ:List (List Int):=[[0,0],[0,1],[0,1],[1,0],[1,1],[2,0],[0,1],[0,1],[0,1],[2,1],[2,1],[2,1],[2,1],[1,1],[2,1],[2,1],[2,1],[1,1],[0,0],[1,0],[2,0],[0,0]]
def CQ:Nat -> Nat -> Value:=λ i j=>.int .i64 ((ceZ.getD i []).getD j 0)
theorem JK:(Blk.rows 2 22 CQ 270 (0,0)).den=(Blk.lit vw 270 (0,0)).den:=by kernel_rfl
def efZ:List (List Int):=nL.map λ z=>[z.1,z.2.1,z.2.2]
theorem zb(g:Nat)(t:TypeId)(hg:g<Tryz.prog.globals.size)(h0:(((begin Tryz.prog (λ _ _=>0) default).world.heap[g]?).bind Obj.row?).map (·.2)=some t){W:World}(hs:W.ShapedOpen Tryz.prog):∃cs,W.heap[g]?=some (.cells cs t (0,0)):=by
 cases h:((begin Tryz.prog (λ _ _=>0) default).world.heap[g]?).bind Obj.row? with
 | none=>rw[h] at h0;cases h0
 | some x =>
  obtain⟨z,t'⟩:=x;rw[h] at h0;simp only[Option.map_some,Option.some.injEq] at h0;subst h0;obtain⟨cs,h1,_⟩:=hs.1 g z t' hg h;exact⟨cs,h1⟩
def JL(P:Program)(e:TypeId)(m:Nat):Bool :=
 match P.underlying e with
 | some (.struct fs)=>decide (fs.toList.length=m) && (List.range m).all λ j =>
  match fs.toList[j]? with
  | some f=>(match P.underlying f.type with|some (.int .i64)=>true|_=>false) && decide (P.cellsOf f.type=1) && decide (f.offset=j)
  | none=>false
 | _=>false
theorem Fc{P:Program}{e:TypeId}{m:Nat}(h:JL P e m=true):∃fs:Array Field,P.underlying e=some (.struct fs) /\ fs.toList.length=m /\
  ∀ (j:Nat) f,fs.toList[j]?=some f -> P.underlying f.type=some (.int .i64) /\ P.cellsOf f.type=1 /\ f.offset=j:=by
 unfold JL at h;split at h
 case h_2=>cases h
 rename_i fs hfs;rw[ab1] at h;have hm:fs.toList.length=m:=aci h.1;refine⟨fs,hfs,hm,λ j f hj=>?_⟩;have hjm:j<m:=by rw[<- hm];exact(List.getElem?_eq_some_iff.1 hj).1
 have h2:=List.all_eq_true.1 h.2 j (List.mem_range.2 hjm);rw[hj] at h2;simp only[ab1,decide_eq_true_eq] at h2;refine⟨?_,h2.1.2,h2.2⟩;have h3:=h2.1.1;split at h3
 ·assumption
 ·cases h3
theorem CS{P:Program}{W:World}{name:String}{g n m:Nat}{t e:TypeId}{zs:List (List Int)}{rest:List (String × DataW Unit)}{ps:List MemPlace}{row:Nat -> Nat -> Value}{cs0:Array Value}
  (hb:W.heap[g]?=some (.cells cs0 t (0,0)))
  (hg:P.globalNamed name=some g) (hty:(P.globals[g]?).map (·.type)=some t) (ht:P.underlying t=some (.array n e)) (hE:JL P e m=true) (XX:P.cellsOf e=m) (hct:P.cellsOf t=n*m) (hm:0<m) (hz:∀z∈zs,z.length=m)
  (L_:∀i j,i<n -> j<m -> row i j=.int .i64 ((zs.getD i []).getD j 0))
  (h:DataW.LaidVars P W ((name,.agg (zs.map λ z=>.agg (z.map λ x=>.lit (.int .i64 x))))::rest) ps):W.heap[g]?=some (Blk.rows m n row t (0,0)).den /\ ∃q,DataW.LaidVars P W rest q:=by
 obtain⟨fs,he,RZ,hf⟩:=Fc hE;obtain⟨g',t',cs,fuel,p,q,hg',ht',ad2,hd,hr,_⟩:=h;obtain rfl:=Option.some.inj (hg.symm.trans hg');obtain rfl:=Option.some.inj (hty.symm.trans ht');have hv:W.var? P name=some cs0:=by
  unfold World.var?;rw[hg];simp only[Option.bind_some,hb]
 obtain rfl:=Option.some.inj (hv.symm.trans ad2);obtain⟨h1,h2,h3⟩:=sG ht he XX hct hm RZ hf hz hd;refine⟨?_,q,hr⟩;rw[hb];show some (Obj.cells cs0 t (0,0))=some (Obj.cells ⟨bD m row n⟩ t (0,0));congr 2;obtain⟨l⟩:=cs0;congr 1
 symm
 exact ke (w:=m) h1 λ i j hi hj=>by rw[L_ i j hi hj];exact h3 i j hi hj
theorem LN {W:World} (hs:W.ShapedOpen Tryz.prog) (hL:laidMetH Tryz.prog [("arenanet/compile.effects",Rows.laid_arenanet_compile_effects),("arenanet/vm.effects",Rows.laid_arenanet_vm_effects)] W):W.heap[0]?=some (Blk.lit vw 270 (0,0)).den /\ W.heap[1]?=some (Blk.rows 3 22 mP 332 (0,0)).den:=by
 rw[MakeChecks.laidMetH_plain _ _ _ (by kernel_rfl)] at hL;obtain⟨ps,hv,_,_⟩:=hL;obtain⟨cs0,hb0⟩:=zb 0 270 (aci (by kernel_rfl)) (by kernel_rfl) hs;obtain⟨cs1,Uu⟩:=zb 1 332 (aci (by kernel_rfl)) (by kernel_rfl) hs;have hv0:DataW.LaidVars Tryz.prog W (("arenanet/compile.effects",.agg (ceZ.map λ z=>.agg (z.map λ x=>.lit (.int .i64 x)))) :: [("arenanet/vm.effects",.agg (efZ.map λ z=>.agg (z.map λ x=>.lit (.int .i64 x))))]) ps:=hv;obtain⟨h0,q,hq⟩:=CS (n:=22) (m:=2) (e:=269) (row:=CQ) hb0 (by kernel_rfl) (by kernel_rfl) (by kernel_rfl) (by kernel_rfl) (by kernel_rfl) (by kernel_rfl) (by decide) (by decide) (λ i j hi hj=>rfl) hv0;obtain⟨h1,_⟩:=CS (n:=22) (m:=3) (e:=331) (row:=mP) Uu (by kernel_rfl) (by kernel_rfl) (by kernel_rfl) (by kernel_rfl) (by kernel_rfl) (by kernel_rfl) (by decide) (by decide) (λ i j hi hj=>by
  have key:∀i:Fin 22,∀j:Fin 3,(if j.1=0 then (nL.getD i.1 (0,0,0)).1 else if j.1=1 then (nL.getD i.1 (0,0,0)).2.1 else (nL.getD i.1 (0,0,0)).2.2)=(efZ.getD i.1 []).getD j.1 0:=by decide
  have:=key ⟨i,hi⟩ ⟨j,hj⟩;rcases j with _|_|_|j
  ·exact congrArg (Value.int .i64) this
  ·exact congrArg (Value.int .i64) this
  ·exact congrArg (Value.int .i64) this
  ·omega) hq
 exact⟨h0.trans (congrArg some JK),h1⟩
def r8(W:World):HL:=List.ofFn (λ k:Fin W.heap.size=>(k.1,if k.1=0 then Blk.lit vw 270 (0,0) else if k.1=1 then Blk.rows 3 22 mP 332 (0,0) else rY W.heap[k.1]))
theorem Bi{W:World}(h0:W.heap[0]?=some (Blk.lit vw 270 (0,0)).den)(h1:W.heap[1]?=some (Blk.rows 3 22 mP 332 (0,0)).den):eF (lF W)=eF (r8 W):=by
 unfold eF lF r8;rw[List.map_ofFn,List.map_ofFn];congr 1;funext k;show (k.1,(rY W.heap[k.1]).den)=(k.1,Blk.den (if k.1=0 then _ else if k.1=1 then _ else _));rw[ma];congr 1
 by_cases e0:k.1=0
 ·rw[if_pos e0];have h2:W.heap[k.1]?=some (Blk.lit vw 270 (0,0)).den:=by rw[show W.heap[k.1]?=W.heap[0]? by rw[e0]];exact h0
  rw[Array.getElem?_eq_getElem k.2] at h2;exact Option.some.inj h2
 ·rw[if_neg e0]
  by_cases e1:k.1=1
  ·rw[if_pos e1];have h2:W.heap[k.1]?=some (Blk.rows 3 22 mP 332 (0,0)).den:=by rw[show W.heap[k.1]?=W.heap[1]? by rw[e1]];exact h1
   rw[Array.getElem?_eq_getElem k.2] at h2;exact Option.some.inj h2
  ·rw[if_neg e1,ma]
theorem JM{W:World}(h0:W.heap[0]?=some (Blk.lit vw 270 (0,0)).den):pH (r8 W) :=
 List.mem_ofFn.2 ⟨⟨0,(Array.getElem?_eq_some_iff.1 h0).1⟩,rfl⟩
theorem JN{W:World}(h1:W.heap[1]?=some (Blk.rows 3 22 mP 332 (0,0)).den):cG (r8 W) :=
 List.mem_ofFn.2 ⟨⟨1,(Array.getElem?_eq_some_iff.1 h1).1⟩,rfl⟩
open Go.Joins
theorem Fd{H:Type}{enc:TypeId × Value -> H}{P:Program}{w:World}{base:Nat}{spare:Nat -> Bool}{held:Bool}{r:Reach}{b0:Nat}{t e:TypeId}{v:Value}{d:DataW H}{p:List MemPlace}(hs:P.underlying t=some (.array 2 e))(hC:P.cellsOf t=2)(XX:P.cellsOf e=1)
  (hv:Value.okWide P w r b0 t v) (h:DataW.Trod enc P w base spare held t v d p) :
  ∃ (v0 v1:Value) (y0 y1:DataW H × List MemPlace) (n:Nat),v=.agg #[v0,v1] /\ d=.agg [y0.1,y1.1] /\ p=y0.2++y1.2 /\
   DataW.trod enc P w base spare held n e [v0]=some y0 /\ DataW.trod enc P w base spare held n e [v1]=some y1:=by
 simp only[Value.okWide,hs] at hv;obtain⟨cs,rfl,IT,_⟩:=hv;rw[hC] at IT;obtain⟨l⟩:=cs
 match l,IT with
 | [c0,c1],_ =>
  obtain⟨fuel,hf⟩:=h;obtain⟨xs,m,rfl,hx,_,hlen,hi⟩:=DataW.trod_array hs hf
  match xs,hlen with
  | [y0,y1],_ =>
   simp only[Prod.mk.injEq] at hx;have i0:=hi 0 (by decide);have i1:=hi 1 (by decide);simp only[XX,Value.cells] at i0 i1;exact⟨c0,c1,y0,y1,m,rfl,by simpa using hx.1,by simpa using hx.2,by simpa using i0,by simpa using i1⟩
end Go.Proofs.YtdppjkjbghbnjaaGreatDoor
