import Derived.Test.YtjokannbjmndfaaGreatDoorZ22
import Derived.Test.YtjokannbjmndfaaGreatDoorZ40
import Derived.Test.YtjokannbjmndfaaGreatDoorZ42
import Derived.Test.YtjokannbjmndfaaGreatDoorZ38
import Derived.Test.YtjokannbjmndfaaGreatDoorZ33
import Derived.Test.YtjokannbjmndfaaGreatDoorZ36
import Derived.Test.YtjokannbjmndfaaGreatDoorZ39
set_option linter.all false
set_option maxHeartbeats 4000000
set_option maxRecDepth 100000
namespace Go.Proofs.YtjokannbjmndfaaGreatDoor
open IntKind
open Go.RowKit
variable {A:Option Addr} {F G T:HL} {J:Nat->Nat×Int} {P:PS (List Inp)} {S:Setup} {V:List (List Inp)} {X:Option (Rw×List Inp)} {bp cc i j k m me n pp sn w:Nat} {ds_:List Dr} {o:Oper} {rs_:List Bx} {t tt:Int} {u:Value} {xs:List Int} {τ:Type} (cap:Nat)
theorem xa{pl:Nat}{kv:List (Int×Value×Nat)}{c:Nat}{gb mb rb lb cl rn rc ck un uc en ec rbk sg smb:Nat}{S2 S3:Setup}{rA uA eA:Option Addr}{rl ul el:List Rw}{N:MemS}{Tg Tn Tr Tu Te Tp Tq Ts:HL}(q1_:P.rows.length=rn)(q2_:P.ck=ck)(q3_:P.used.length=un)(q4_:P.effs.length=en)(q5_:P.rb=rbk)(hse_:SetEq S S2)(hg:GameX rs_ ds_ bp gb mb S2 P.M 0 Tg)(hb:0<=P.M.base/\P.M.base+(P.M.lg.length:Int)<=20000*(c:Int))(hn:RingH rb mb w P.a P.ms Tn)(hkv:LocIn kv)(hr:SlIs kG 57 rl rA rc Tr)(hrl:rl.length=rn)(hrr:RwsT rl P.rows Tp)(hu:SlX kG 57 ul uA uc Tu)(hul:ul.length=un)(huu:RwsT ul P.used Tp)(he:SlIs je 45 el eA ec Te)(hel:el.length=en)(hee:EfsT el P.effs Tq)(hse3_:SetEq S S3)(hs:GameX rs_ ds_ bp sg smb S3 N 99020000 Ts)(hsc:N.cs=WS S J P.rows sn)(hsn:sn<=rn)(hsb:0<=N.base/\N.base<=1000000*(sn:Int))(hpl:S.players=(pl:Int))(hX:∀p xs,X=some (p,xs)->∀F:HL,(∀y∈Tp,y∈F)->RwIn F xs p) (cc:Nat){xs:List Inp}(hl:RowL cT 106 F A n xs)(hn9:n=pl)(Vk:n=xs.length)(WE:1<=n)(hn2:n<=1000)(iF:∀k,k<n->fy (xs.getD k dI))(Vu:rn<=5000):af1 32 #[vP pp 0,vI (rn:Int),.slice A n cc] (ap [(pp,.lit [vI (pl:Int),vI (me:Int),vI (w:Int),vP gb 0,vP rb 0,.map (some lb),.slice rA rn rc,vI (ck:Int),.slice uA un uc,.slice eA en ec,vI (rbk:Int),vP sg 0] 100 (0,0)),(lb,.obj (bG kv cl))] [Tg,Tn,Tr,Tu,Te,Tp,Tq,Ts]) F (λ u H'=>u=vI 0/\PeerR rs_ ds_ bp pp pl me w S J (qp P xs) (nF kv (rn:Int)) c sn none H'):=by
 refine QF Tryz.func32 mn<|Sr 17 [.o 0]<|aam ((n:Int)=(pl:Int)) 15 (λ h1=>?_) λ h1=>?_
 ·refine OG 12<|aan (σ:=Nat) (λ k_=>⟨[(0,vP pp 0),(1,vI (rn:Int)),(2,.slice A n cc),(16,.slice A n cc),(17,vI (n:Int)),(18,vI (k_:Int))],[(pp,.lit [vI (pl:Int),vI (me:Int),vI (w:Int),vP gb 0,vP rb 0,.map (some lb),.slice rA rn rc,vI (ck:Int),.slice uA un uc,.slice eA en ec,vI (rbk:Int),vP sg 0] 100 (0,0)),(lb,.obj (bG kv cl))],[Tg,Tn,Tr,Tu,Te,Tp,Tq,Ts],k_<=n,n-k_⟩) 0 [0,1] [0,1,2,3,4,5,6,7] (aaJ _) ?_;rintro k_ XT UC;refine OG 6<|aal ((k_:Int)<(n:Int)) 19 (λ h4=>?_) λ h4=>?_
  ·refine ae 7 [] λ _=>?_;obtain⟨qx5,oF,U5,fx5,XY,Un,UH,XR,UX⟩:=hl.at (k:=k_) (by omega);refine aw 16 (congrArg (λ v_=>(.slice v_ n cc:Value)) Un)<|RN.ro (λ _=>(mc UH mn))<|ah 2 [.ix k_,.rorow 0 (oF+k_) 0,.rorow 0 (oF+k_) 1,.rorow 0 (oF+k_) 2] [((oF*3+k_*3)+2)=(oF+k_)*3+2/\(oF+k_)<U5,((oF*3+k_*3)+1)=(oF+k_)*3+1/\(oF+k_)<U5,(oF*3+k_*3)=(oF+k_)*3+0/\(oF+k_)<U5,(k_:Int)=((k_:Nat):Int)/\k_<n] λ _=>aw 21 (congrArg (λ v_=>(.agg #[vI v_.dx,vI v_.dy,vI v_.act]:Value)) UX)<|ae 7 (ow 0 6) λ n6=>aah (zU (x:=xs.getD k_ dI) (iF k_ (by omega)))<|ah 11 [.gen,.nw] [aX ((k_:Int)+1)] λ _=>aw 16 (congrArg (λ v_=>(.slice v_ n cc:Value)) Un.symm)<|UC (k_+1) [1,2] [0,1,2,3,4,5,6,7] ?_
   try dsimp only
   exact⟨by omega,by omega⟩
  ·refine OG 11<|aah (iL (pp:=pp) (gb:=gb) (rb:=rb) (lb:=lb) (sg:=sg) (pl:=pl) (me:=me) (w:=w) (rn:=rn) (rc:=rc) (ck:=ck) (un:=un) (uc:=uc) (en:=en) (ec:=ec) (rbk:=rbk) (rA:=rA) (uA:=uA) (eA:=eA) (ay 0))<|OG 3<|ci 29 (nt (abw (rfl:(rn:Int)=(rn:Int))))<|OG 10<|aal ((rn:Int)>=6000) 31 (λ h7=>?_) λ h7=>?_
   ·(exfalso;omega)
   ·refine OG 4<|aak [8,11] []<|af [] [0,1,5,2,3,4] [.o 0]<|aae 6 (QP [] (qE (A:=A) (n:=n) cc (xs:=xs) (hl.up.src rF (by decide)) (by omega)) ?_);rintro _ ⟨A8,c9,VI⟩ ⟨rfl,Xn⟩;dsimp only at Xn;refine aae 7 (aag [] [] λ n12=>?_);refine aae 8 (vO [] J5 [(⟨A8,n,c9⟩:Rw)] 3 0 hrl.symm hr (by simp;omega) ?_);rintro A13 c14 Vf ⟨ZM,am0⟩;refine afZ [9,10]<|Sx 11 [] [.o 1]<|aad<|Sr 8 [.o 1]<|Qd 2 (kv:=kv) (cl:=cl) (k:=(rn:Int))<|OG 7<|uh [6,1,0,2,3,4,5,7,8]<|xE<|QI [] [1,2] [2,3,1,4,5,0,6,7] (vI 0) (ap [(pp,.lit [vI (pl:Int),vI (me:Int),vI (w:Int),vP gb 0,vP rb 0,.map (some lb),.slice A13 (rn+1) c14,vI (ck:Int),.slice uA un uc,.slice eA en ec,vI (rbk:Int),vP sg 0] 100 (0,0)),(lb,.obj (bG (nF kv (rn:Int)) cl))] [Tg,Tn,Vf,Tu,Te,(Tp++VI),Tq,Ts]) ⟨rfl,PeerR.mk (show (P.rows++[xs]).length=rn+1 by rw[aaK,q1_];rfl) q2_ q3_ q4_ q5_ hse_ hg hb hn (hkv.del _) ZM (by simp[hrl]) (hrr.snocD Xn (by omega) Vk) hu hul (huu.more _) he hel hee hse3_ hs (hsc.trans (DZ xs (by rw[q1_];exact hsn)).symm) (by omega) hsb hpl (λ _ _ h_=>by cases h_)⟩
 ·(exfalso;omega)
theorem xb{pl:Nat}{kv:List (Int×Value×Nat)}{c:Nat}(h:PeerR rs_ ds_ bp pp pl me w S J P kv c sn X G){xs:List Inp}(hl:RowL cT 106 F A n xs)(hn9:n=pl)(Vk:n=xs.length)(WE:1<=n)(hn2:n<=1000)(iF:∀k,k<n->fy (xs.getD k dI))(Vu:P.rows.length<=5000):af1 32 #[vP pp 0,vI (P.rows.length:Int),.slice A n cc] (ap [] [G]) F (λ u H'=>∃T9,H'=ap [] [T9]/\((λ u H'=>u=vI 0/\PeerR rs_ ds_ bp pp pl me w S J (qp P xs) (nF kv (P.rows.length:Int)) c sn none H') u T9)):=by
 rw[bm];cases h with
 |mk q1_ q2_ q3_ q4_ q5_ hse_ hg hb hn hkv hr hrl hrr hu hul huu he hel hee hse3_ hs hsc hsn hsb hpl hX=>
  rw[q1_];exact(xa q1_ q2_ q3_ q4_ q5_ hse_ hg hb hn hkv hr hrl hrr hu hul huu he hel hee hse3_ hs hsc hsn hsb hpl hX cc hl hn9 Vk WE hn2 iF (by omega)).tl
structure PeerI(S:Setup)(J:Nat->Nat×Int)(w:Nat)(TR:Nat->List Inp)(P:PS (List Inp))(V:List (List Inp))(m k:Nat):Prop where
 inv:PInv (gP S J) (bz S S.nb) w P V m
 rows:P.rows=(List.range P.rows.length).map TR
 ok:∀r∈V,RowOk S.players r
 lim:P.rows.length<=k/\P.rb<=k
def Nt(tt:Int)(w vl rl rb XL rl2 rb2 m2:Nat)(n e:Int):Prop :=
 rl2=rl/\((n=0/\e=18/\XL=vl/\rb2=rb/\(tt<(vl:Int)\/tt>(rl:Int)+(w:Int)))\/(e=0/\m2=min XL rl/\(XL:Int)=tt/\vl<=XL/\XL<=rl+w/\(XL:Int)-(vl:Int)<=n/\n<=(XL:Int)-(vl:Int)+(w:Int)/\((n>(XL:Int)-(vl:Int)/\rb2=rb+1)\/(n=(XL:Int)-(vl:Int)/\rb2=rb))))
section
variable {S:Setup} {J:Nat->Nat×Int} {w:Nat} {TR:Nat->List Inp} {P:PS (List Inp)} {V:List (List Inp)} {m k:Nat}
theorem zY(S:Setup)(J:Nat->Nat×Int)(w:Nat)(TR:Nat->List Inp)(k:Nat):PeerI S J w TR ⟨⟨bz S S.nb,[],0⟩,0,[],[],0,[],[],0⟩ [] 0 k :=
 ⟨Ch ⟨bz S S.nb,[],0⟩ 0,rfl,λ r hr=>(by cases hr),⟨aaJ _,aaJ _⟩⟩
theorem PeerI.more(h:PeerI S J w TR P V m k){k':Nat}(hk:k<=k'):PeerI S J w TR P V m k':=⟨h.inv,h.rows,h.ok,⟨aeW h.lim.1 hk,aeW h.lim.2 hk⟩⟩
theorem PeerI.rowsOk(h:PeerI S J w TR P V m k)(hT:∀t,RowOk S.players (TR t)):∀r∈P.rows,RowOk S.players r:=λ r hr=>by
 rw[h.rows] at hr;obtain⟨t,_,rfl⟩:=abY.1 hr;exact hT t
theorem PeerI.conf(h:PeerI S J w TR P V m k):PeerI S J w TR (qp P (TR P.rows.length)) V m (k+1):=by
 have hl:=h.lim;refine⟨h.inv.conf _,?_,h.ok,⟨by show (P.rows++[_]).length<=_;rw[aaK,pt];omega,by show P.rb<=_;omega⟩⟩;show P.rows++[_]=(List.range (P.rows++[_]).length).map TR;rw[aaK,pt,adn,acl,<- h.rows];rfl
theorem PeerI.vlen(h:PeerI S J w TR P V m k):V.length<=P.rows.length+w:=h.inv.win
theorem PeerI.t0(h:PeerI S J w TR P V m k)(hV:SetV S)(hn:V.length<=50):P.M.get 0=(V.length:Int):=(h.inv.te hV (f6 S) hn h.ok).t0
theorem PeerI.adv(h:PeerI S J w TR P V m k)(hT:∀t,RowOk S.players (TR t))(hw:1<=w){T:Nat}(h1:V.length<=T)(hse_:T<=P.rows.length+w)(rf:Nat->List Inp)(hrf:∀t,RowOk S.players (rf t))(hrc:∀t,t<P.rows.length->P.rows[t]?=some (rf t)) :
  PeerI S J w TR (qH (gP S J) w P V.length T rf) (sR P V T rf) (min T P.rows.length) (k+1)/\(sR P V T rf).length=T/\Nt (T:Int) w V.length P.rows.length P.rb (sR P V T rf).length (qH (gP S J) w P V.length T rf).rows.length (qH (gP S J) w P V.length T rf).rb (min T P.rows.length) ((T-dY P V.length:Nat):Int) 0:=by
 obtain⟨a1,a2,a3,a4⟩:=h.inv.adv hw h1 hse_ rf hrc;obtain⟨k1,k2,k3,k4,k5⟩:=h.inv.adv1;have hf:=h.inv.far;have hl:=h.lim;refine⟨⟨a1,by rw[a3];exact h.rows,λ r hr=>?_,⟨by rw[a3];omega,by rw[a4];split <;> omega⟩⟩,a2,by rw[a3],.inr ⟨rfl,by rw[a2],by rw[a2],by omega,by omega,by omega,by omega,?_⟩⟩
 ·unfold sR at hr;rcases np.1 hr with hr|hr
  ·exact h.ok r (ac9 hr)
  ·obtain⟨t,rfl⟩:=pW _ _ hr;exact hrf t
 ·rw[a2,a4]
  by_cases hx:dY P V.length<V.length
  ·rw[if_pos hx];exact .inl ⟨by omega,rfl⟩
  ·rw[if_neg hx];exact .inr ⟨by omega,rfl⟩
end
section
variable {rs_:List Bx} {ds_:List Dr} {bp pp pl me w:Nat} {S:Setup} {J:Nat->Nat×Int} {P:PS (List Inp)} {kv:List (Int×Value×Nat)} {c sn:Nat} {TR:Nat->List Inp} {V:List (List Inp)} {m k:Nat} {G F:HL}
theorem PeerR.loc_ok(h:PeerR rs_ ds_ bp pp pl me w S J P kv c sn X G){x:Inp}(e:ii kv t=some x):fy x:=by
 cases h with
 |mk q1_ q2_ q3_ q4_ q5_ hse_ hg hb hn hkv hr hrl hrr hu hul huu he hel hee hse3_ hs hsc hsn hsb hpl hX=>exact hkv.ok e
theorem PeerR.plE(h:PeerR rs_ ds_ bp pp pl me w S J P kv c sn X G):S.players=(pl:Int):=by
 cases h with
 |mk q1_ q2_ q3_ q4_ q5_ hse_ hg hb hn hkv hr hrl hrr hu hul huu he hel hee hse3_ hs hsc hsn hsb hpl hX=>exact hpl
theorem So(h:PeerR rs_ ds_ bp pp pl me w S J P kv c sn none G)(hI:PeerI S J w TR P V m k)(hT:∀t,RowOk S.players (TR t))(hV:SetV S)(Wd:me<pl)(hw:1<=w/\w<=12)(hk:k<=36)(hc:c<=50*k)(Vm:∀i,i<=50->(J i).1<5/\AtOk F bp (i:Int) (J i))(hE:cF F):af1 33 #[vP pp 0,vI tt] (ap [] [G]) F (λ u H'=>∃y:(Int×Int×PS (List Inp)×List (Int×Value×Nat)×Nat×List (List Inp)×Nat)×HL,H'=ap [] [y.2]/\(u=.tuple #[vI y.1.1,vI y.1.2.1]/\PeerR rs_ ds_ bp pp pl me w S J y.1.2.2.1 y.1.2.2.2.1 y.1.2.2.2.2.1 sn none y.2/\PeerI S J w TR y.1.2.2.1 y.1.2.2.2.2.2.1 y.1.2.2.2.2.2.2 (k+1)/\y.1.2.2.2.2.1<=50*(k+1)/\Nt tt w V.length P.rows.length P.rb y.1.2.2.2.2.2.1.length y.1.2.2.1.rows.length y.1.2.2.1.rb y.1.2.2.2.2.2.2 y.1.1 y.1.2.1)):=by
 have hl:=hI.lim;have hv:=hI.vlen;have hpl:=h.plE;have hr:=hI.rowsOk hT
 by_cases hb:tt<(V.length:Int)\/tt>(P.rows.length:Int)+(w:Int)
 ·refine(KX h hI.inv hV hI.ok hr Wd hw (by omega) (by omega) (by omega) (by omega) Vm hE hb).mono λ u H' q=>?_;obtain⟨x,rfl,h1,hse_⟩:=q;exact⟨((0,18,P,kv,c,V,m),x),rfl,h1,hse_,hI.more (Nat.le_succ _),by show c<=_;omega,rfl,.inl ⟨rfl,rfl,rfl,rfl,hb⟩⟩
 ·obtain⟨T,rfl⟩:∃T:Nat,tt=(T:Int):=⟨tt.toNat,by omega⟩;refine(D4 h hI.inv hV hI.ok hr Wd hw (by omega) (by omega) (by omega) (by omega) Vm hE (T:=T) (by omega) (by omega) (by omega)).mono λ u H' q=>?_;obtain⟨x,rfl,h1,hse_⟩:=q;have ha:=hI.adv hT hw.1 (T:=T) (by omega) (by omega) (ga pl me P.rows (ii kv)) (λ t=>by rw[hpl];exact wW (by rw[<- hpl];exact hr) (λ t x e=>h.loc_ok e) t) (λ t ht=>pT ht);exact⟨((((T-dY P V.length:Nat):Int),0,qH (gP S J) w P V.length T (ga pl me P.rows (ii kv)),kv,c+(T-dY P V.length),sR P V T (ga pl me P.rows (ii kv)),min T P.rows.length),x),rfl,h1,hse_,ha.1,by show c+_<=_;omega,ha.2.2⟩
theorem KY(h:PeerR rs_ ds_ bp pp pl me w S J P kv c sn none G)(hI:PeerI S J w TR P V m k)(hT:∀t,RowOk S.players (TR t))(hV:SetV S)(hk:k<=36)(hc:c<=50*k){xs:List Inp}(hl:RowL cT 106 F A n xs)(hxs:xs=TR P.rows.length)(ht:t=(P.rows.length:Int)):af1 32 #[vP pp 0,vI t,.slice A n cc] (ap [] [G]) F (λ u H'=>∃x,H'=ap [] [x]/\(u=vI 0/\PeerR rs_ ds_ bp pp pl me w S J (qp P (TR P.rows.length)) (nF kv (P.rows.length:Int)) c sn none x/\PeerI S J w TR (qp P (TR P.rows.length)) V m (k+1))):=by
 subst hxs;subst ht;have hli:=hI.lim;have hpl:=h.plE;have hp1:=hV.pl;have hr:=hT P.rows.length;have hn:=hl.len;have Yx:=hr.1;refine(xb (cc:=cc) h hl (by omega) hn.symm (by omega) (by omega) (λ i hi=>hr.2 i (by omega)) (by omega)).mono λ u H' q=>?_;obtain⟨x,rfl,h1,hse_⟩:=q;exact⟨x,rfl,h1,hse_,hI.conf⟩
end
section
variable {rs_:List Bx} {ds_:List Dr} {bp pp pl me w:Nat} {S:Setup} {J:Nat->Nat×Int} {P:PS (List Inp)} {kv:List (Int×Value×Nat)} {c sn:Nat} {TR:Nat->List Inp} {V:List (List Inp)} {m k:Nat} {G F:HL}
theorem Sq(h:PeerR rs_ ds_ bp pp pl me w S J P kv c sn none G)(hI:PeerI S J w TR P V m k)(hT:∀t,RowOk S.players (TR t))(hV:SetV S)(Wd:me<pl)(hw:1<=w/\w<=12)(hk:k<=36)(hc:c<=50*k)(Vm:∀i,i<=50->(J i).1<5/\AtOk F bp (i:Int) (J i))(hE:cF F)(htt:tt=(V.length:Int)):af1 33 #[vP pp 0,vI tt] (ap [] [G]) F (λ u H'=>∃y:(Nat×PS (List Inp)×Nat×List (List Inp))×HL,H'=ap [] [y.2]/\(u=.tuple #[vI (y.1.1:Int),vI 0]/\PeerR rs_ ds_ bp pp pl me w S J y.1.2.1 kv y.1.2.2.1 sn none y.2/\PeerI S J w TR y.1.2.1 y.1.2.2.2 (min V.length P.rows.length) (k+1)/\y.1.2.2.1<=50*(k+1)/\y.1.2.2.2.length=V.length/\y.1.2.1.rows.length=P.rows.length/\(y.1.1=0->y.1.2.2.2=V))):=by
 subst htt;have hl:=hI.lim;have hv:=hI.vlen;have hpl:=h.plE;have hr:=hI.rowsOk hT;refine(D4 h hI.inv hV hI.ok hr Wd hw (by omega) (by omega) (by omega) (by omega) Vm hE (aaI _) (by omega) (by omega)).mono λ u H' q=>?_;obtain⟨x,rfl,h1,hse_⟩:=q;have ha:=hI.adv hT hw.1 (T:=V.length) (aaI _) (by omega) (ga pl me P.rows (ii kv)) (λ t=>by rw[hpl];exact wW (by rw[<- hpl];exact hr) (λ t x e=>h.loc_ok e) t) (λ t ht=>pT ht);obtain⟨k1,k2,k3,k4,k5⟩:=hI.inv.adv1;have h2:=ha.2.2.1;refine⟨((V.length-dY P V.length,qH (gP S J) w P V.length V.length (ga pl me P.rows (ii kv)),c+(V.length-dY P V.length),sR P V V.length (ga pl me P.rows (ii kv))),x),rfl,h1,hse_,ha.1,by show c+_<=_;omega,ha.2.1,h2,λ e=>?_⟩;have e2:V.length-dY P V.length=0:=e;show sR P V V.length _=V;unfold sR;rw[e2];show V.take _++[]=V;rw[acm,WP (by omega)]
end
theorem pX(S:Setup) (cap:Nat)(t:Int)(hl:ArgL F A n xs)(hn:n<=9223372036854775807)(hp:0<=S.players/\S.players<=1000000)(ht:0<=t/\t<=1000000):af1 18 #[Setup.v S,.slice A n cap,vI t] (ap [] []) F (λ u H'=>∃x:Option Addr×Nat×HL,H'=ap [] [x.2.2]/\(u=.slice x.1 S.players.toNat x.2.1/\SlIs cT 106 (rowL S.players xs (t/2) S.players.toNat) x.1 x.2.1 x.2.2/\bn x.1)):=by
 refine QG Tryz.func18<|ah 12 (ow 0 16++[.nw]) [0<=t/\(0:Int)<2/\t<=9223372036854775807] λ n1=>Ss (Mm S cap (t/2) hl.up hn (by omega) (by omega)) ?_;rintro _ ⟨A2,c3,T4⟩ ⟨rfl,U8,hz6⟩;dsimp only at U8 hz6;refine OG 3<|QI [] [] [0] (.slice A2 S.players.toNat c3) (ap [] [T4]) ⟨(A2,c3,T4),rfl,rfl,U8,hz6⟩
def bB(pl:Int)(xs:List Int)(n:Nat):List (List Inp):=(List.range n).map λ t:Nat=>rowL pl xs ((t:Int)/2) pl.toNat
theorem zZ(pl:Int)(xs:List Int)(n:Nat):bB pl xs (n+1)=bB pl xs n++[rowL pl xs ((n:Int)/2) pl.toNat]:=by simp[bB,adn]
theorem kK(pl:Int)(xs:List Int)(n:Nat):(bB pl xs n).length=n:=by simp[bB]
theorem Cu{pl:Int}(h:k<n):(bB pl xs n).getD k []=rowL pl xs ((k:Int)/2) pl.toNat:=by simp[bB,h]
theorem sZ(hl:ArgL F A n xs){pl:Int}(hp:0<=pl){cnt:Nat}(hi:i<cnt):RowOk pl ((bB pl xs cnt).getD i []):=by
 rw[Cu hi];exact DU hl hp
def xc(c:Int):Inp:=⟨c%3-1,c/3%3-1,c/9⟩
theorem Nw{c:Int}(h:0<=c/\c<=35):fy (xc c):=by unfold fy xc;dsimp only;omega
theorem Gt{c:Int}(hc:0<=c/\c<=35):af0 55 #[.int .u8 c] F (.tuple #[.agg #[vI (xc c).dx,vI (xc c).dy,vI (xc c).act],vI 0]):=by
 refine QG Tryz.func55<|ae 15 [] λ n1=>aw 4 (congrArg (λ v_=>(vI v_:Value)) (show i64.wrap c=c by rw[IntKind.wrap_i64];omega))<|OG 5<|aal (c>35) 8 (λ h2=>?_) λ h2=>?_
 ·(exfalso;omega)
 ·refine ah 19 ([.nw,.nw,.nw,.nw,.nw,.nw]++aab 3) [0<=c/\(0:Int)<9/\c<=9223372036854775807,aX (((c/3)%3)-1),0<=c/3/\(0:Int)<3/\c/3<=9223372036854775807,0<=c/\(0:Int)<3/\c<=9223372036854775807,aX ((c%3)-1),0<=c/\(0:Int)<3/\c<=9223372036854775807] λ _=>aap (aab 3) [] [] ⟨rfl,rfl⟩
theorem KZ(n:Int)(hn:pv n):af0 31 #[vI n] F (.agg #[vI (xc (aq n 36)).dx,vI (xc (aq n 36)).dy,vI (xc (aq n 36)).act]):=by
 have hA_:0<=aq n 36/\aq n 36<=35:=by have h_:=dH (n:=n) hn 36 (by decide);omega
 refine QG Tryz.func31<|ae 8 [] λ n1=>aah (gu n 36 (by decide))<|OG 1<|aw 8 (congrArg (λ v_=>((.int .u8 v_):Value)) (show u8.wrap (aq n 36)=aq n 36 by rw[IntKind.wrap_u8];omega))<|aah (Gt hA_)<|ae 14 (ow 0 6++(ow 1 3)) λ n2=>aap (ow 1 3) [] [] ⟨rfl,rfl⟩
structure ActI where (dO bY nN:Int)
def kL:Enc ActI:=⟨3,λ p k=>match k with|0=>vI p.dO|1=>vI p.bY|_=>vI p.nN,⟨0,0,0⟩⟩
noncomputable def OB:TypeInfo:=match Tryz.prog.info? 50 with | some i=>i | none=>⟨.bool,"",0,0,false,0,0,none,false,#[]⟩
noncomputable def OC:Value:=match OB.zero with|some z=>z|none=>.bool false
theorem K3:EncOk kL Tryz.prog 50 OB OC where
 info:=by kernel_rfl
 zero:=by kernel_rfl
 size:=by kernel_rfl
 zsize:=by kernel_rfl
 zcell:=λ k hk=>by
  have h:∀k<3,OC.cells[k]?=some (kL.cell kL.dflt k):=by intro k hk;(iterate 3 (rcases k with _|k;· kernel_rfl));omega
  exact h k hk
 one:=λ x k=>by unfold kL;dsimp only;split <;> rfl
 bytes:=aaH (by kernel_rfl)
def oQ(n:Int):ActI:=⟨n%5,if n/540%9=0 then n/4860%7-3 else n/180%3,n/5%36⟩
def gV(xs:List Int)(k:Nat):List ActI:=(List.range k).map λ i=>oQ (aq (xs.getD i 0) 1000000)
theorem s0(xs:List Int)(k:Nat):gV xs (k+1)=gV xs k++[oQ (aq (xs.getD k 0) 1000000)]:=by simp[gV,adn]
theorem iM(xs:List Int)(k:Nat):(gV xs k).length=k:=by simp[gV]
theorem K4(hl:ArgL F A n xs)(hn:n<=9223372036854775807):af1 10 #[.slice A n cap] (ap [] []) F (λ u H'=>∃x:Nat×Option Addr×Nat×HL,H'=ap [] [x.2.2.2]/\(x.1=min n 14/\u=.slice x.2.1 x.1 x.2.2.1/\SlIs kL 50 (gV xs x.1) x.2.1 x.2.2.1 x.2.2.2)):=by
 refine QG Tryz.func10<|OG 17<|aao<|aan (σ:=Nat×Option Addr×Nat×HL) (λ ⟨k_,A_,c_,T_⟩=>⟨[(0,.slice A n cap),(3,.slice A_ k_ c_),(4,vI (k_:Int))],[],[T_],k_<=min n 14/\SlIs kL 50 (gV xs k_) A_ c_ T_,min n 14-k_⟩) (0,none,0,[]) [] [0] (⟨aaJ _,aas _ _⟩) ?_;rintro⟨k_,A_,c_,T_⟩ ⟨XT,IT⟩ Ue;refine OG 8<|aal ((k_:Int)<(n:Int)) 11 (λ h3=>?_) λ h3=>?_
 ·refine OG 5<|aal ((k_:Int)<14) 14 (λ h4=>?_) λ h4=>?_
  ·refine ae 9 [] λ _=>?_;obtain⟨qx5,oF,U5,gx5,ams,XY,Un,UH,XR,UX,ahj⟩:=hl.at (k:=k_) (by omega);refine aw 17 (congrArg (λ v_=>(.slice v_ n cap:Value)) Un)<|RN.ro (λ _=>(mc UH mn))<|ah 2 [.ix k_,.rorow 0 (oF+k_) 0] [(oF+k_*1)=(oF+k_)*1+0/\(oF+k_)<U5,(k_:Int)=((k_:Nat):Int)/\k_<n] λ _=>aw 20 (congrArg (λ v_=>(v_:Value)) UX)<|aah (gu (xs.getD k_ 0) 1000000 (by decide)) ?_;have hA_:=dH (n:=xs.getD k_ 0) ahj 1000000 (by decide);refine ah 27 ([.nw,.nw,.nw,.nw,.nw]++aab 3++[.nw,.nw]) [0<=(aq (xs.getD k_ 0) 1000000)/540/\(0:Int)<9/\(aq (xs.getD k_ 0) 1000000)/540<=9223372036854775807,0<=aq (xs.getD k_ 0) 1000000/\(0:Int)<540/\aq (xs.getD k_ 0) 1000000<=9223372036854775807,0<=(aq (xs.getD k_ 0) 1000000)/180/\(0:Int)<3/\(aq (xs.getD k_ 0) 1000000)/180<=9223372036854775807,0<=aq (xs.getD k_ 0) 1000000/\(0:Int)<180/\aq (xs.getD k_ 0) 1000000<=9223372036854775807,0<=(aq (xs.getD k_ 0) 1000000)/5/\(0:Int)<36/\(aq (xs.getD k_ 0) 1000000)/5<=9223372036854775807,0<=aq (xs.getD k_ 0) 1000000/\(0:Int)<5/\aq (xs.getD k_ 0) 1000000<=9223372036854775807,0<=aq (xs.getD k_ 0) 1000000/\(0:Int)<5/\aq (xs.getD k_ 0) 1000000<=9223372036854775807] λ n6=>aal (((aq (xs.getD k_ 0) 1000000)/540)%9=0) 34 (λ h7=>?_) λ h7=>?_
   ·refine ah 13 ([.nw,.nw,.nw]++aab 4) [aX ((((aq (xs.getD k_ 0) 1000000)/4860)%7)-3),0<=(aq (xs.getD k_ 0) 1000000)/4860/\(0:Int)<7/\(aq (xs.getD k_ 0) 1000000)/4860<=9223372036854775807,0<=aq (xs.getD k_ 0) 1000000/\(0:Int)<4860/\aq (xs.getD k_ 0) 1000000<=9223372036854775807] λ _=>aw 41 (congrArg (λ v_=>(.agg #[vI ((aq (xs.getD k_ 0) 1000000)%5),vI v_,vI (((aq (xs.getD k_ 0) 1000000)/5)%36)]:Value)) (show (((aq (xs.getD k_ 0) 1000000)/4860)%7)-3=(oQ (aq (xs.getD k_ 0) 1000000)).bY from (if_pos h7).symm))<|ae 1 [] λ n8=>gY K3 [oQ (aq (xs.getD k_ 0) 1000000)] 0 0 (iM xs k_).symm IT (by rw[iM];simp;omega) ?_;rintro A9 X9 Ub ⟨Yt,abr⟩;refine ah 9 [.nw] [aX ((k_:Int)+1)] λ _=>Ue (k_+1,A9,X9,Ub) [] [0] ?_
    try dsimp only
    exact⟨⟨by omega,by rw[s0];exact Yt⟩,by omega⟩
   ·refine Sr 6 (aab 3)<|aw 41 (congrArg (λ v_=>(.agg #[vI ((aq (xs.getD k_ 0) 1000000)%5),vI v_,vI (((aq (xs.getD k_ 0) 1000000)/5)%36)]:Value)) (show ((aq (xs.getD k_ 0) 1000000)/180)%3=(oQ (aq (xs.getD k_ 0) 1000000)).bY from (if_neg h7).symm))<|ae 1 [] λ n14=>gY K3 [oQ (aq (xs.getD k_ 0) 1000000)] 0 0 (iM xs k_).symm IT (by rw[iM];simp;omega) ?_;rintro A15 WR V8 ⟨Ys,abq⟩;refine ah 9 [.nw] [aX ((k_:Int)+1)] λ _=>Ue (k_+1,A15,WR,V8) [] [0] ?_
    try dsimp only
    exact⟨⟨by omega,by rw[s0];exact Ys⟩,by omega⟩
  ·refine OG 12<|QI [] [] [0] (.slice A_ k_ c_) (ap [] [T_]) ?_;obtain⟨k0_,abW⟩:∃x,min n 14=x:=⟨_,rfl⟩;obtain rfl:k_=k0_:=by omega
   exact⟨(k_,A_,c_,T_),rfl,abW.symm,rfl,IT⟩
 ·refine OG 17<|QI [] [] [0] (.slice A_ k_ c_) (ap [] [T_]) ?_;obtain⟨k0_,abW⟩:∃x,min n 14=x:=⟨_,rfl⟩;obtain rfl:k_=k0_:=by omega
  exact⟨(k_,A_,c_,T_),rfl,abW.symm,rfl,IT⟩
theorem Ny{n:Int}(h:0<=n/\n<1000000):(0<=(oQ n).dO/\(oQ n).dO<=4)/\(-3<=(oQ n).bY/\(oQ n).bY<=3)/\(0<=(oQ n).nN/\(oQ n).nN<=35):=by
 unfold oQ;dsimp only;refine⟨by omega,?_,by omega⟩;split <;> omega
theorem Gu(hl:ArgD F A n xs)(hk:k<=n)(hi:i<k):(0<=((gV xs k).getD i kL.dflt).dO/\((gV xs k).getD i kL.dflt).dO<=4)/\(-3<=((gV xs k).getD i kL.dflt).bY/\((gV xs k).getD i kL.dflt).bY<=3)/\(0<=((gV xs k).getD i kL.dflt).nN/\((gV xs k).getD i kL.dflt).nN<=35):=by
 obtain⟨F',hl⟩:=hl.ex;have e:(gV xs k).getD i kL.dflt=oQ (aq (xs.getD i 0) 1000000):=by simp[gV,hi]
 rw[e];obtain⟨_,_,_,_,_,_,_,_,_,_,hr⟩:=hl.at (k:=i) (by omega);exact Ny (dH hr 1000000 (by decide))
theorem qs{pl:Nat}{kv:List (Int×Value×Nat)}{c:Nat}{TR:Nat->List Inp}(h:PeerR rs_ ds_ bp pp pl me w S J P kv c sn none G)(hI:PeerI S J w TR P V m k)(hT:∀t,RowOk S.players (TR t))(hV:SetV S)(Wd:me<pl)(hw:1<=w/\w<=12)(hk:k<=36)(hc:c<=50*k)(Vm:∀i,i<=50->(J i).1<5/\AtOk F bp (i:Int) (J i))(hE:cF F):af1 16 #[vP pp 0] (ap [] [G]) F (λ u H'=>∃y:(Nat×PS (List Inp)×Nat×List (List Inp))×HL,H'=ap [] [y.2]/\(u=.bool (decide ((y.1.1:Int)=0))/\PeerR rs_ ds_ bp pp pl me w S J y.1.2.1 kv y.1.2.2.1 sn none y.2/\PeerI S J w TR y.1.2.1 y.1.2.2.2 (min V.length P.rows.length) (k+1)/\y.1.2.2.1<=50*(k+1)/\y.1.2.2.2.length=V.length/\y.1.2.1.rows.length=P.rows.length/\(y.1.1=0->y.1.2.2.2=V))):=by
 have aer:=hI.lim;have adO:=hI.vlen;have S_:=hI.t0 hV (by omega);refine QF Tryz.func16 mn<|OG 9<|aah (oM h (ar 0) S_)<|aai [] [0] (Sq (TR:=TR) h hI hT hV Wd hw hk hc (λ i hi=>⟨(Vm i hi).1,(Vm i hi).2.mono λ x hx=>aC hx⟩) (aC hE) rfl) ?_;rintro _ ⟨⟨n1,P2,c3,V4⟩,T5⟩ ⟨rfl,hq6⟩;dsimp only at hq6;refine OG 18<|QI [] [] [0] (.bool (decide ((n1:Int)=0))) (ap [] [T5]) ⟨((n1,P2,c3,V4),T5),rfl,rfl,hq6⟩
def DoF(a:ActI)(w vl rl rb XL rl2 rb2 m2:Nat)(n e:Int):Prop :=
 (a.dO=0/\n=0/\XL=vl/\rl2=rl/\rb2=rb)\/((a.dO=1\/a.dO=4)/\n=0/\e=0/\XL=vl/\rl2=rl+1/\rb2=rb)\/((¬ a.dO=0/\¬ a.dO=1/\¬ a.dO=4)/\Nt ((vl:Int)+a.bY) w vl rl rb XL rl2 rb2 m2 n e)
abbrev qt(S:Setup)(xs:List Int):Nat->List Inp:=λ t=>rowL S.players xs ((t:Int)/2) S.players.toNat
theorem K5{pl:Nat}{kv:List (Int×Value×Nat)}{c:Nat}{TR:Nat->List Inp}(a:ActI)(h:PeerR rs_ ds_ bp pp pl me w S J P kv c sn none G)(hI:PeerI S J w TR P V m k)(hTR:TR=qt S xs)(hT:∀t,RowOk S.players (TR t))(hV:SetV S)(Wd:me<pl)(hw:1<=w/\w<=12)(hk:k<=36)(hc:c<=50*k)(Vm:∀i,i<=50->(J i).1<5/\AtOk F bp (i:Int) (J i))(hE:cF F)(hl:ArgD F A n xs)(hn:n<=9223372036854775807)(ha:(0<=a.dO/\a.dO<=4)/\(-3<=a.bY/\a.bY<=3)/\(0<=a.nN/\a.nN<=35)):af1 11 #[vP pp 0,Setup.v S,.slice A n cap,.agg #[vI a.dO,vI a.bY,vI a.nN]] (ap [] [G]) F (λ u H'=>∃y:(Int×Int×PS (List Inp)×List (Int×Value×Nat)×Nat×List (List Inp)×Nat)×HL,H'=ap [] [y.2]/\(u=.tuple #[]/\PeerR rs_ ds_ bp pp pl me w S J y.1.2.2.1 y.1.2.2.2.1 y.1.2.2.2.2.1 sn none y.2/\PeerI S J w TR y.1.2.2.1 y.1.2.2.2.2.2.1 y.1.2.2.2.2.2.2 (k+1)/\y.1.2.2.2.2.1<=50*(k+1)/\DoF a w V.length P.rows.length P.rb y.1.2.2.2.2.2.1.length y.1.2.2.1.rows.length y.1.2.2.1.rb y.1.2.2.2.2.2.2 y.1.1 y.1.2.1)):=by
 have aer:=hI.lim;have adO:=hI.vlen;have anA:=hV.pl;have S_:=hI.t0 hV (by omega);refine QF Tryz.func11 mn<|ae 19 [.o 0] λ n1=>aal (a.dO=0) 18 (λ h2=>?_) λ h2=>?_
 ·refine OG 1<|aak [9] []<|af [] [0,1,3,6,4,7] (aab 2)<|aac [] 2 (λ X_=>(oM h (aL 0) S_))<|aH [] [5] [.nw] [aX ((V.length:Int)+a.bY)]<|aac [] 8 (λ X_=>(KZ a.nN (by unfold pv;omega)))<|aae 9 (aaf [] [] [0] (Cp (t:=(V.length:Int)+a.bY) (xi:=(xc (aq a.nN 36))) h (Nw (by have h_:=dH (n:=a.nN) (by unfold pv;omega) 36 (by decide);omega))) ?_);rintro _ T5 ⟨⟨kv3,e4⟩,rfl,hs6⟩;refine QQ 1<|QI [] [] [0] (.tuple #[]) (ap [] [T5]) ⟨((0,e4,P,kv3,c,V,m),T5),rfl,rfl,hs6,hI.more (Nat.le_succ _),by show c<=_;omega,.inl ⟨by omega,rfl,rfl,rfl,rfl⟩⟩
 ·refine OG 8<|aal (a.dO=1) 30 (λ h7=>?_) λ h7=>?_
  ·refine OG 7<|aah (wX h (ar 0))<|Sr 9 (ow 1 16)<|Ss (hl.up.use λ F_ h_=>pX S cap (P.rows.length:Int) h_ hn (by omega) (by omega)) ?_;rintro _ ⟨A8,c9,VI⟩ ⟨rfl,ZO,adH⟩;dsimp only at ZO adH;refine aai [] [1] (KY (cc:=c9) h hI hT hV hk hc (ZO.rowN (ar 0) (ez)) (by rw[hTR]) rfl) ?_;rintro _ U2 ⟨rfl,WA,ai5⟩;refine OG 2<|QI [] [] [0] (.tuple #[]) (ap [] [U2]) ⟨((0,0,qp P (TR P.rows.length),nF kv (P.rows.length:Int),c,V,m),U2),rfl,rfl,WA,ai5,by show c<=_;omega,.inr (.inl ⟨by omega,rfl,rfl,rfl,by show (P.rows++[_]).length=_;simp,rfl⟩)⟩
  ·refine OG 6<|aal (a.dO=4) 30 (λ Wu=>?_) λ Wu=>?_
   ·refine OG 4<|aah (wX h (ar 0))<|Sr 9 (ow 1 16)<|Ss (hl.up.use λ F_ h_=>pX S cap (P.rows.length:Int) h_ hn (by omega) (by omega)) ?_;rintro _ ⟨Zy,Zg,Wv⟩ ⟨rfl,Xe,abp⟩;dsimp only at Xe abp;refine aai [] [1] (KY (cc:=Zg) h hI hT hV hk hc (Xe.rowN (ar 0) (ez)) (by rw[hTR]) rfl) ?_;rintro _ Zi ⟨rfl,abD,ai4⟩;refine OG 2<|QI [] [] [0] (.tuple #[]) (ap [] [Zi]) ⟨((0,0,qp P (TR P.rows.length),nF kv (P.rows.length:Int),c,V,m),Zi),rfl,rfl,abD,ai4,by show c<=_;omega,.inr (.inl ⟨by omega,rfl,rfl,rfl,by show (P.rows++[_]).length=_;simp,rfl⟩)⟩
   ·refine OG 1<|aak [6] []<|af [] [0,1,3,4] [.o 0]<|aac [] 2 (λ X_=>(oM h (aL 0) S_))<|aH [] [5] [.nw] [aX ((V.length:Int)+a.bY)]<|aae 6 (aaf [] [] [0] (So (tt:=(V.length:Int)+a.bY) h hI hT hV Wd hw hk hc (λ i hi=>⟨(Vm i hi).1,(Vm i hi).2.mono λ x hx=>aC hx⟩) (aC hE)) ?_);rintro _ ⟨⟨n25,e26,P27,agP,c29,V30,m31⟩,T32⟩ ⟨rfl,adZ,afe,aeQ,afv⟩;dsimp only at adZ afe aeQ afv;refine QQ 1<|QI [] [] [0] (.tuple #[]) (ap [] [T32]) ⟨((n25,e26,P27,agP,c29,V30,m31),T32),rfl,rfl,adZ,afe,aeQ,.inr (.inr ⟨by omega,afv⟩)⟩
def nJ(S:Setup)(J:Nat->Nat×Int)(xss:List (List Inp))(n:Nat):List Eff:=plE (rG S.std J xss) ⟨bz S S.nb,[],0⟩ n
theorem Nz(bp:Nat) (cap:Nat){rs:List Rw}{xss:List (List Inp)}(hS:SetIn F S)(hM:MapIn F S rs_ ds_)(hV:SetV S)(Vu:S.rn<=1000000)(Zr:S.dn<=1000000)(L_:(sizeOf S).toNat<=1000000)(hv:oq S rs_ ds_=0)(hE:cF F)(hr:RowL kG 57 F A n rs)(hw:RwsIn F rs xss)(h9:n<=50)(Uh:∀i,i<n->RowOk S.players (xss.getD i []))(Vm:∀i,i<n->(J i).1<5/\AtOk F bp (i:Int) (J i)){W:List Int}(hW:WS S J xss n=W) :
  af1 19 #[Setup.v S,vP bp 0,.slice A n cap] (ap [] []) F (λ u H'=>∃x:(Nat×Option Addr×Nat)×HL,H'=ap [(x.1.1,.rows 1 W.length (aY W) 3 (0,0))] [x.2]/\(SlIs aB 112 (nJ S J xss n) x.1.2.1 x.1.2.2 x.2/\u=.tuple #[vS x.1.1 0 W.length W.length,.slice x.1.2.1 (nJ S J xss n).length x.1.2.2,vI 0])):=by
 subst hW;have hp:=hV.pl;have iF:∀S2,SetEq S S2->∀i,i<n->TkOk S2 (J i) (xss.getD i []) (kH (rG S2 J xss) ⟨bz S S.nb,[],0⟩ i):=λ S2 h2 i hi=>Ou (h2.setV hV) (sV hV h2) J (by omega) (λ i hi=>by rw[h2.pl];exact Uh i hi) hi;have ZI:∀S2,SetEq S S2->∀i,i<n->(kH (rG S2 J xss) ⟨bz S S.nb,[],0⟩ i).get 0=(i:Int):=λ S2 h2 i hi=>(zR (h2.setV hV) (sV hV h2) J (n:=n) (by omega) (λ i hi=>by rw[h2.pl];exact Uh i hi) i (by omega)).t0;refine(Nb bp cap J hS hM (by have:=hV.nb;omega) Vu Zr L_ hv hE hr hw (λ k hk=>by have:=(Uh k hk).1;omega) (by omega) (by omega) (λ S2 h2 i hi _=>⟨.inl (iF S2 h2 i hi),(Vm i hi).1,by rw[ZI S2 h2 i hi];exact(Vm i hi).2⟩)).mono λ u H' h=>?_;obtain⟨⟨⟨S2,q,A2,c2⟩,C,E⟩,rfl,h2,h3⟩:=h;dsimp only at h2 h3;rcases h3 with ⟨_,h4,h5,h6⟩|⟨i,hi,_,h4,_⟩
 ·have e1:=sU (KC h2 (f6 S) J xss) ⟨bz S S.nb,[],0⟩ n;have e2:=KB (KC h2 (f6 S) J xss) ⟨bz S S.nb,[],0⟩ n;rw[e1] at h4 h6;rw[e2] at h5 h6;subst h4;exact⟨((q,A2,c2),E),by simp[ap,WS],h5,h6⟩
 ·exact absurd (iF S2 h2 i hi).ok h4
theorem K6{ρ:Type}(g:Nat->ρ->Gm):∀ (V:List ρ) (t:Nat) (c:List Int) (i:Nat),((xp g t c V).getD i []).length<=1001
 | [],_,_,i=>by simp[xp]
 |r::V,t,c,0=>by rw[xp,adf];exact wN _ _
 |r::V,t,c,i+1=>by rw[xp,adg];exact K6 g V _ _ i
section
variable {S:Setup} {J:Nat->Nat×Int} {w:Nat} {TR:Nat->List Inp} {P:PS (List Inp)} {V:List (List Inp)} {m k:Nat}
theorem PeerI.rowsR(h:PeerI S J w (qt S xs) P V m k)(hn:P.rows.length=n):P.rows=bB S.players xs n:=by
 have:=h.rows;rw[hn] at this;exact this
theorem PeerI.effsV(h:PeerI S J w TR P V m k):P.effs=xp (gP S J) 0 (bz S S.nb) V:=h.inv.effs
theorem PeerI.eff_len(h:PeerI S J w TR P V m k)(t:Nat):(P.effs.getD t []).length<=1001:=by
 rw[h.effsV];exact K6 _ _ _ _ _
theorem PeerI.eff_next(h:PeerI S J w TR P V m k){t:Nat}(ht:t<V.length):nJ S J V (t+1)=nJ S J V t++P.effs.getD t []:=by
 unfold nJ;rw[h.effsV,<- sX S J V (t+1) (by omega),<- sX S J V t (by omega),<- oJ,<- oJ,pS (by rw[wQ];exact ht) [],acT];simp
end
theorem pY{pl:Int}(h:k<=n):(bB pl xs n).take k=bB pl xs k:=by
 unfold bB;rw[<- List.map_take,List.take_range,adm h]
open Go.Shelf
def K7{τ:Type}(P:Program)(o:Oper)(L:FL)(T:HL)(Tq:τ->HL)(Rv:Value->τ->Prop):Prop :=
 ∀ (ev:Operand->Value) (X:HL) (w:World),(∀x,dw L x=true->ev x=cN L x)->Rel (T++X) w->∃u w' x,((execOp ev o).run P w=.ok (.value u) w'\/((execOp ev o).run P w=.ok .skip w'/\u=undef))/\Rv u x/\Rel (Tq x++X) w'/\Below 0 w w'
structure OpTa{τ:Type}(P:Program)(N:Nat)(o:Oper)(L:FL)(T:HL)(Tq:τ->HL)(Rv:Value->τ->Prop):Prop where
 gd:o.guard=none
 hd:∀c,o.op≠ .defer c
 ds:(cD N o.dst undef L).isSome=true
 ok:K7 P o L T Tq Rv
section
variable {r:Option Nat} {P:Program} {N:Nat} {D:List Deferred} {F:HL} {w0:World} {R:HL} {s:Cfg} {Q:Exit->Act->World->Prop}
theorem Qh{Tq:τ->HL}{Rv:Value->τ->Prop}(C_:eU s=some o->OpTa P N o s.L T Tq Rv)(ho:eU s=some o)
  (hk:∀u x,Rv u x->RN r P N D F w0 R (Eg N [] [j] [] [Tq x] u s) Q) (hp:aJ [] [j] s=true:=by kernel_rfl) (hH:picks [] [j] s=([],[T]):=by kernel_rfl):RN r P N D F w0 R s Q:=by
 obtain⟨q1,qd,Ud,iF⟩:=C_ ho;unfold aJ at hp;unfold picks at hH;rw[abc] at hp;simp only[df] at hH;obtain⟨g1,g2⟩:=hH;refine⟨λ hR a w hF aT hB=>?_⟩;obtain⟨c,kk,L,A,Ts⟩:=s;unfold eU at ho;cases c with
 |code c=>cases ho
 |ex c=>cases ho
 |drw _ _=>cases ho
 |ops ops i=>
  simp only at ho Ud iF hp g1 g2 hF aT;have oR:ops.toList.drop i=o::ops.toList.drop (i+1):=by
   have iN:i<ops.toList.length:=(bt.1 ho).1;rw[eB iN,(bt.1 ho).2]
  show wpListIn _ _ _ _ _ _ _ _;rw[oR,wpListIn,if_pos (by simp[Region.wanted,q1])];refine⟨λ _ _=>trivial,?_⟩;have h1:=gC A Ts hp.1 hp.2;rw[g2] at h1;have e0:ap (([]:List Nat).filterMap (A[·]?)) [T]=T:=by simp[ap]
  rw[e0] at h1;have VC:Rel (T++(ap ((oth [] A.length).filterMap (A[·]?)) ((oth [j] Ts.length).filterMap (Ts[·]?))++F)) w:=by
   rw[<- aaF];exact aT.perm (h1.append_right F)
  obtain⟨u,w',x,e1,e2,e3,e4⟩:=iF a.eval _ w (λ y hy=>hF.eval hy) VC;have key:b9 P o a w λ u2 w2=>u2=u/\w2=w':=by
   unfold b9;rcases e1 with e1|⟨e1,rfl⟩
   ·rw[e1];exact⟨rfl,rfl⟩
   ·rw[e1];exact⟨rfl,rfl⟩
  refine dM qd key ?_;rintro u2 w2 ⟨rfl,rfl⟩;obtain⟨L',hl⟩:=cr Ud u2;have hh:=(hk u2 x e2).h hR;have Of:cR N u2 ⟨.ops ops i,kk,L,A,Ts⟩=⟨.ops ops (i+1),kk,L',A,Ts⟩:=by
   unfold cR;simp only[ho,hl]
  unfold Eg at hh;rw[Of] at hh;refine hh _ w2 (hF.put hl) ?_ (hB.trans e4);refine e3.perm ?_;show (ap (([]:HL)++(oth [] A.length).filterMap (A[·]?)) ([Tq x]++(oth [j] Ts.length).filterMap (Ts[·]?))++F).Perm _;have h3:=nP [] ((oth [] A.length).filterMap (A[·]?)) [Tq x] ((oth [j] Ts.length).filterMap (Ts[·]?)) F;have e5:ap ([]:HL) [Tq x]=Tq x:=by simp[ap]
  rw[e5] at h3;exact h3.symm
variable {hards:List Nat} {Rd:HL}
theorem xd{ix:List Nat}{Tq:τ->HL}{Rv:Value->τ->Prop}(C_:eL i s=some o->OpTa P N o s.L T Tq Rv)(ho:eL i s=some o)
  (hk:∀u x,Rv u x->RD r P N D F w0 R hards Rd (m6 (λ A=>([]:HL)++(oth [] A.length).filterMap (A[·]?)) (λ Ts=>[Tq x]++(oth [j] Ts.length).filterMap (Ts[·]?)) (mH N i u s)) Q)
  (hp:aJ [] [j] s=true:=by kernel_rfl) (hH:picks [] [j] s=([],[T]):=by kernel_rfl) (hx:kQ (hards.contains i) ix [] [j] s Rd=Rd:=by kernel_rfl):RDO r P N D F w0 R hards Rd i s Q:=by
 obtain⟨q1,qd,UT,iF⟩:=C_ ho;obtain⟨c,k,L,A,Ts⟩:=s;unfold eL at ho;cases c with
 |code c=>cases ho
 |ops ops i=>cases ho
 |ex e=>cases ho
 |drw ops l=>
  refine⟨λ hR=>?_⟩;unfold aJ at hp;unfold picks at hH;simp only[abc,df] at ho iF UT hp hH;obtain⟨e1,e2⟩:=hH;have h1:=gC A Ts hp.1 hp.2;rw[e2] at h1;have e0:ap (([]:List Nat).filterMap (A[·]?)) [T]=T:=by simp[ap]
  rw[e0] at h1;have Of:∀v L',cD N o.dst v L=some L'->mH N i v ⟨.drw ops l,k,L,A,Ts⟩=⟨.drw ops (aS l i true),k,L',A,Ts⟩:=by
   intro v L' hl;unfold mH;simp only[ho,hl]
  have hTD:∀v x,Rv v x->∀L',cD N o.dst v L=some L'->Region.noSelect ops=true->TD P N D F w0 ops hards Rd (eK (aS l i true)) (aS l i true) L' (ap (([]:HL)++(oth [] A.length).filterMap (A[·]?)) ([Tq x]++(oth [j] Ts.length).filterMap (Ts[·]?))) (NoPanic (kZ r P k Q)):=by
   intro v x hv L' hl hs;have h2:=(hk v x hv).h hR;rw[Of v L' hl] at h2;exact h2 hs
  have Yo:∀x,(Tq x++ap ((oth [] A.length).filterMap (A[·]?)) ((oth [j] Ts.length).filterMap (Ts[·]?))).Perm (ap (([]:HL)++(oth [] A.length).filterMap (A[·]?)) ([Tq x]++(oth [j] Ts.length).filterMap (Ts[·]?))):=by
   intro x;have h3:=nP [] ((oth [] A.length).filterMap (A[·]?)) [Tq x] ((oth [j] Ts.length).filterMap (Ts[·]?)) [];have e5:ap ([]:HL) [Tq x]=Tq x:=by simp[ap]
   rw[e5,acm,acm] at h3;exact h3
  have YJ:∀a,Fm N D L a->Region.wanted o (yielded ops a.tmps)=true/\∀w,Rel (ap A Ts++F) w->Below 0 w0 w->b9 P o a w λ u w'=>∃x,Rv u x/\Rel ((Tq x++ap ((oth [] A.length).filterMap (A[·]?)) ((oth [j] Ts.length).filterMap (Ts[·]?)))++F) w'/\Below 0 w w':=by
   intro a hF;refine⟨by simp[Region.wanted,q1],λ w aT hB=>?_⟩;have VC:Rel (T++(ap ((oth [] A.length).filterMap (A[·]?)) ((oth [j] Ts.length).filterMap (Ts[·]?))++F)) w:=by
    rw[<- aaF];exact aT.perm (h1.append_right F)
   obtain⟨u,w',x,g1,g2,g3,g4⟩:=iF a.eval _ w (λ y hy=>hF.eval hy) VC;have g5:Rel ((Tq x++ap ((oth [] A.length).filterMap (A[·]?)) ((oth [j] Ts.length).filterMap (Ts[·]?)))++F) w':=by rw[aaF];exact g3
   unfold b9;rcases g1 with g1|⟨g1,rfl⟩
   ·rw[g1];exact⟨x,g2,g5,g4⟩
   ·rw[g1];exact⟨x,g2,g5,g4⟩
  refine(iZ (by simpa using ho) (λ v x=>Rv v x) (λ x=>Tq x++ap ((oth [] A.length).filterMap (A[·]?)) ((oth [j] Ts.length).filterMap (Ts[·]?))) UT YJ (λ x=>⟨λ hi=>?_,λ hi y hy=>?_⟩) (λ v x hv L' hl hs=>xD (Yo x).symm (hTD v x hv L' hl hs)):RDO r P N D F w0 R hards Rd i ⟨.drw ops l,k,L,A,Ts⟩ Q).h hR
  ·have hc:hards.contains i=false:=by
    cases hq:hards.contains i with
    |false=>rfl
    |true=>exact absurd (abI.1 hq) hi
   rw[hc] at hx;exact absurd hx (by simp[kQ])
  ·rw[abI.2 hi] at hx;simp only[kQ] at hx;exact aaz _ (aaB _ (rt ix hx y hy))
structure OpTv(P:Program)(N:Nat)(o:Oper)(L:FL)(T:HL)(u:Value):Prop where
 gd:o.guard=none
 ds:(cD N o.dst undef L).isSome=true
 ok:∀ (ev:Operand->Value) (X:HL) (w:World),(∀x,dw L x=true->ev x=cN L x)->Rel (T++X) w->(execOp ev o).run P w=.ok (.value u) w
theorem NA(C_:eL i s=some o->OpTv P N o s.L T u)(ho:eL i s=some o)(hk:RD r P N D F w0 R hards Rd (mH N i u s) Q)
  (hp:aJ [] [j] s=true:=by kernel_rfl) (hH:picks [] [j] s=([],[T]):=by kernel_rfl) (hx:hards.contains i=false:=by kernel_rfl):RDO r P N D F w0 R hards Rd i s Q:=by
 obtain⟨q1,UT,iF⟩:=C_ ho;obtain⟨c,k,L,A,Ts⟩:=s;unfold eL at ho;cases c with
 |code c=>cases ho
 |ops ops i=>cases ho
 |ex e=>cases ho
 |drw ops l=>
  refine⟨λ hR=>?_⟩;unfold aJ at hp;unfold picks at hH;simp only[abc,df] at ho iF UT hp hH;obtain⟨e1,e2⟩:=hH;have h1:=gC A Ts hp.1 hp.2;rw[e2] at h1;have e0:ap (([]:List Nat).filterMap (A[·]?)) [T]=T:=by simp[ap]
  rw[e0] at h1;have Of:∀v L',cD N o.dst v L=some L'->mH N i v ⟨.drw ops l,k,L,A,Ts⟩=⟨.drw ops (aS l i true),k,L',A,Ts⟩:=by
   intro v L' hl;unfold mH;simp only[ho,hl]
  have YJ:∀a,Fm N D L a->Region.wanted o (yielded ops a.tmps)=true/\∀w,Rel (ap A Ts++F) w->Below 0 w0 w->b9 P o a w λ v w'=>∃_:Unit,v=u/\Rel (ap A Ts++F) w'/\Below 0 w w':=by
   intro a hF;refine⟨by simp[Region.wanted,q1],λ w aT hB=>?_⟩;have VC:Rel (T++(ap ((oth [] A.length).filterMap (A[·]?)) ((oth [j] Ts.length).filterMap (Ts[·]?))++F)) w:=by
    rw[<- aaF];exact aT.perm (h1.append_right F)
   have g1:=iF a.eval _ w (λ y hy=>hF.eval hy) VC;unfold b9;rw[g1];exact⟨(),rfl,aT,jt _ _⟩
  refine(iZ (by simpa using ho) (λ v (_:Unit)=>v=u) (λ _=>ap A Ts) UT YJ (λ x=>⟨λ hi=>⟨[],rfl⟩,λ hi y hy=>?_⟩) (λ v x hv L' hl hs=>?_):RDO r P N D F w0 R hards Rd i ⟨.drw ops l,k,L,A,Ts⟩ Q).h hR
  ·rw[abI.2 hi] at hx;cases hx
  ·subst hv;have h2:=hk.h hR;rw[Of v L' hl] at h2;exact h2 hs
theorem Qi(hd:∀c,o.op≠ .defer c)(C_:eU s=some o->OpTv P N o s.L T u)(ho:eU s=some o)(hk:RN r P N D F w0 R (cR N u s) Q)
  (hp:aJ [] [j] s=true:=by kernel_rfl) (hH:picks [] [j] s=([],[T]):=by kernel_rfl):RN r P N D F w0 R s Q:=by
 obtain⟨q1,Ud,iF⟩:=C_ ho;unfold aJ at hp;unfold picks at hH;rw[abc] at hp;simp only[df] at hH;obtain⟨g1,g2⟩:=hH;refine⟨λ hR a w hF aT hB=>?_⟩;obtain⟨c,kk,L,A,Ts⟩:=s;unfold eU at ho;cases c with
 |code c=>cases ho
 |ex c=>cases ho
 |drw _ _=>cases ho
 |ops ops i=>
  simp only at ho Ud iF hp g1 g2 hF aT;have oR:ops.toList.drop i=o::ops.toList.drop (i+1):=by
   have iN:i<ops.toList.length:=(bt.1 ho).1;rw[eB iN,(bt.1 ho).2]
  show wpListIn _ _ _ _ _ _ _ _;rw[oR,wpListIn,if_pos (by simp[Region.wanted,q1])];refine⟨λ _ _=>trivial,?_⟩;have h1:=gC A Ts hp.1 hp.2;rw[g2] at h1;have e0:ap (([]:List Nat).filterMap (A[·]?)) [T]=T:=by simp[ap]
  rw[e0] at h1;have VC:Rel (T++(ap ((oth [] A.length).filterMap (A[·]?)) ((oth [j] Ts.length).filterMap (Ts[·]?))++F)) w:=by
   rw[<- aaF];exact aT.perm (h1.append_right F)
  have e1:=iF a.eval _ w (λ y hy=>hF.eval hy) VC;have key:b9 P o a w λ u2 w2=>u2=u/\w2=w:=by
   unfold b9;rw[e1];exact⟨rfl,rfl⟩
  refine dM hd key ?_;rintro u2 w2 ⟨rfl,rfl⟩;obtain⟨L',hl⟩:=cr Ud u2;have hh:=hk.h hR;have Of:cR N u2 ⟨.ops ops i,kk,L,A,Ts⟩=⟨.ops ops (i+1),kk,L',A,Ts⟩:=by
   unfold cR;simp only[ho,hl]
  rw[Of] at hh;exact hh _ w2 (hF.put hl) aT hB
end
end Go.Proofs.YtjokannbjmndfaaGreatDoor
