import Derived.Test.YtjokannbjmndfaaGreatDoorZ41
import Derived.Test.YtjokannbjmndfaaGreatDoorZ09
import Derived.Test.YtjokannbjmndfaaGreatDoorZ40
import Derived.Test.YtjokannbjmndfaaGreatDoorZ33
set_option linter.all false
set_option maxHeartbeats 4000000
set_option maxRecDepth 100000
namespace Go.Proofs.YtjokannbjmndfaaGreatDoor
open Go.RowKit
variable {F G Te Tg Tn Tp Tq Ts Tu:HL} {J:Nat->Nat×Int} {M N:MemS} {P:PS (List Inp)} {S S2 S3:Setup} {T a bp ck ec gb lb m mb me n pp rb rbk rc sg smb sn t uc un w:Nat} {V:List (List Inp)} {X:Option (Rw×List Inp)} {c0 ms:List Int} {ds_:List Dr} {eA rA uA:Option Addr} {el rl ul:List Rw} {es:List Eff} {j:Nat×Int} {rs_:List Bx} {tt:Int} {xs:List Inp} {ρ:Type}
def tT(w:Nat)(M:MemS)(a:Nat)(ms:List Int)(now:Nat):MemS×Nat×List Int:=if CS a ms=(now:Int) then (M,a,ms) else dZ w M a ms now
theorem KR{now:Nat}{P:PS ρ}:tT w P.M P.a P.ms now=((dT w P now).M,(dT w P now).a,(dT w P now).ms):=by
 unfold tT
 by_cases h:CS P.a P.ms=(now:Int)
 ·rw[if_pos h];have hse_:=wS.1 h;unfold dT;rw[if_pos hse_]
 ·rw[if_neg h];exact(Na λ hse_=>h (wS.2 hse_)).symm
theorem Ns{now:Nat}(h:CS a ms=(now:Int)):tT w M a ms now=(M,a,ms):=if_pos h
theorem Qf{now:Nat}(h:¬ CS a ms=(now:Int)):tT w M a ms now=dZ w M a ms now:=if_neg h
theorem KS{now:Nat}(hw:1<=w)(hr:∀k∈ms,M.base<=k/\k<=M.base+(M.lg.length:Int)):M.base<=(tT w M a ms now).1.base/\(tT w M a ms now).1.base+((tT w M a ms now).1.lg.length:Int)=M.base+(M.lg.length:Int):=by
 unfold tT;split
 ·exact⟨ac5 _,rfl⟩
 ·unfold dZ;dsimp only;split
  ·next h=>
   have hse_:=vq hr (i:=1) (by omega);generalize (ms++[M.base+(M.lg.length:Int)]).getD 1 0=v at hse_ ⊢;show M.base<=M.base+(((v-M.base).toNat:Nat):Int)/\M.base+(((v-M.base).toNat:Nat):Int)+((M.lg.drop (v-M.base).toNat).length:Int)=_;rw[aaY];omega
  ·exact⟨ac5 _,rfl⟩
theorem KT{now:Nat}(h:j=J now)(hse_:SetEq S S2):(lM (gP S J) w P now xs).M=iK (mu S2 j xs) (tT w P.M P.a P.ms now).1:=by
 subst h;rw[Nn hse_,KR];rfl
theorem Qg{now:Nat}(h:j=J now)(hse_:SetEq S S2):l7 (gP S J now xs) (dT w P now).M=l7 (mu S2 j xs) (tT w P.M P.a P.ms now).1:=by
 subst h;rw[Np hse_,KR]
theorem Gp{g:Nat->List Inp->Gm}{now:Nat}{w2:Nat}:RingH rb mb w2 (lM g w P now xs).a (lM g w P now xs).ms=RingH rb mb w2 (tT w P.M P.a P.ms now).2.1 (tT w P.M P.a P.ms now).2.2:=by
 rw[KR];rfl
theorem KU{pl:Nat}{kv:List (Int×Value×Nat)}{c:Nat}{cl rn en:Nat}{Tr:HL}(q1_:P.rows.length=rn)(q2_:P.ck=ck)(q3_:P.used.length=un)(q4_:P.effs.length=en)(q5_:P.rb=rbk)(hse_:SetEq S S2)(hg:GameX rs_ ds_ bp gb mb S2 P.M 0 Tg)(hb:0<=P.M.base/\P.M.base+(P.M.lg.length:Int)<=20000*(c:Int))(hn:RingH rb mb w P.a P.ms Tn)(hkv:LocIn kv)(hr:SlIs kG 57 rl rA rc Tr)(hrl:rl.length=rn)(hrr:RwsT rl P.rows Tp)(hu:SlX kG 57 ul uA uc Tu)(hul:ul.length=un)(huu:RwsT ul P.used Tp)(he:SlIs je 45 el eA ec Te)(hel:el.length=en)(hee:EfsT el P.effs Tq)(hse3_:SetEq S S3)(hs:GameX rs_ ds_ bp sg smb S3 N 99020000 Ts)(hsc:N.cs=WS S J P.rows sn)(hsn:sn<=rn)(hsb:0<=N.base/\N.base<=1000000*(sn:Int))(hpl:S.players=(pl:Int))(hX:∀p xs,X=some (p,xs)->∀F:HL,(∀y∈Tp,y∈F)->RwIn F xs p){now b:Nat} (o:Nat) {N1:Nat} (cc:Nat)(j:Nat×Int){full:List Inp} (xs:List Inp)(hjj:j=J now)(hI:(b,.rows 3 N1 (jM full) 106 (0,0))∈Tp)(hir:o+xs.length<=N1)(VS:xs.length<=1000000)(hx:∀k,k<xs.length->full.getD (o+k) dI=xs.getD k dI)(hp:∀F2:HL,(∀y∈Tp,y∈F2)->RwIn F2 xs ⟨some ⟨b,o*3,none⟩,xs.length,cc⟩)(h0:P.M.get 0=(now:Int))(hml:P.ms.length<=100000000)(hrg:P.ms≠[]->now=P.a+P.ms.length\/now+1=P.a+P.ms.length)(hmr:∀k∈P.ms,P.M.base<=k/\k<=P.M.base+(P.M.lg.length:Int))(hw:1<=w/\w<=13)(WD:now<=1000000)(YS:c<=4000)(hj:j.1<5)(hA:AtOk F bp ((tT w P.M P.a P.ms now).1.get 0) j)(hE:cF F)(hk:TkOk S2 j xs (tT w P.M P.a P.ms now).1)(hun:un<=1000000)(hen:en<=1000000):af1 60 #[vP pp 0,vS b (o*3) xs.length cc] (ap [(pp,.lit [vI (pl:Int),vI (me:Int),vI (w:Int),vP gb 0,vP rb 0,.map (some lb),.slice rA rn rc,vI (ck:Int),.slice uA un uc,.slice eA en ec,vI (rbk:Int),vP sg 0] 100 (0,0)),(lb,.obj (bG kv cl))] [Tg,Tn,Tr,Tu,Te,Tp,Tq,Ts]) F (λ u H'=>u=vI 0/\PeerR rs_ ds_ bp pp pl me w S J (lM (gP S J) w P now xs) kv (c+1) sn none H'):=by
 have aeY:=KS (w:=w) (now:=now) (a:=P.a) hw.1 hmr;refine QF Tryz.func60 mn<|OG 9<|aah (kc (pp:=pp) (rb:=rb) (lb:=lb) (sg:=sg) (pl:=pl) (me:=me) (w:=w) (rn:=rn) (rc:=rc) (ck:=ck) (un:=un) (uc:=uc) (en:=en) (ec:=ec) (rbk:=rbk) (rA:=rA) (uA:=uA) (eA:=eA) (ay 0) hg (ar 0) h0)<|OG 3<|RN.cut (σ:=HL×HL) (λ ⟨Tn_,Tg_⟩=>⟨[(0,vP pp 0),(1,vS b (o*3) xs.length cc)],[(pp,.lit [vI (pl:Int),vI (me:Int),vI (w:Int),vP gb 0,vP rb 0,.map (some lb),.slice rA rn rc,vI (ck:Int),.slice uA un uc,.slice eA en ec,vI (rbk:Int),vP sg 0] 100 (0,0)),(lb,.obj (bG kv cl))],[Tn_,Tg_,Tr,Tu,Te,Tp,Tq,Ts],RingH rb mb w (tT w P.M P.a P.ms now).2.1 (tT w P.M P.a P.ms now).2.2 Tn_/\GameX rs_ ds_ bp gb mb S2 (tT w P.M P.a P.ms now).1 0 Tg_,0⟩) ?_ ?_
 ·intro mt1;refine Sr 6 [.o 0]<|aah (TW hn (ar 1) hml)<|OG 4<|aam ((CS P.a P.ms)=(now:Int)) 18 (λ h2=>?_) λ h2=>?_
  ·refine ae 2 [] λ _=>mt1 (Tn,Tg) [0,1] [1,0,2,3,4,5,6,7] ?_
   try dsimp only
   rw[Ns h2];exact⟨hn,hg⟩
  ·refine ae 8 [.o 0] λ _=>?_;have ahu:P.ms≠[]->now=P.a+P.ms.length:=λ e_=>(hrg e_).resolve_right λ h_=>h2 (wS.2 ⟨e_,by omega⟩);refine aai [] [1,0] (Sn hg hn ahu hmr (by omega) hw (by omega) hml) ?_;rintro _ ⟨T3,T4⟩ ⟨rfl,hn5,hg6⟩;dsimp only at hn5 hg6;refine ae 11 [] λ _=>mt1 (T3,T4) [0,1] [0,1,2,3,4,5,6,7] ?_
   try dsimp only
   rw[Qf h2];exact⟨hn5,hg6⟩
 ·rintro⟨Tn_,Tg_⟩ ⟨hn_,hg_⟩;refine ae 8 [.o 0] λ _=>?_;have abZ:=hg_.raise (k':=100000000-20000-(tT w P.M P.a P.ms now).1.lg.length+20000) (by omega);refine aai [] [1] (KJ (c:=cc) abZ hj (hA.mono λ x hx=>aC hx) (aC hE) ((ar 4) _ hI) hir VS hx hk) ?_;rintro _ ⟨⟨A7,c8,n9⟩,VI,E11⟩ ⟨acz,ZN,rfl⟩;dsimp only at acz ZN;have akU:=acz.room;refine ae 28 [.o 0] λ n14=>RN.appX J5 ul [(⟨some ⟨b,o*3,none⟩,xs.length,cc⟩:Rw)] 4 0 hul.symm hu (by simp;omega) ?_;rintro A15 WR V8 ⟨Ys,abq⟩;refine ae 14 [.o 1,.o 1] λ XN=>gY Qe [(⟨A7,(l7 (mu S2 j xs) (tT w P.M P.a P.ms now).1).length,c8⟩:Rw)] 5 0 hel.symm he (by simp;omega) ?_;rintro A21 c22 X1 ⟨Xd,amX⟩;refine Sr 10 [.o 2]<|uh [7,3,0,1,2,4,5,6,8]<|xE<|QI [] [2,3] [3,4,5,2,1,6,0,7] (vI 0) (ap [(pp,.lit [vI (pl:Int),vI (me:Int),vI (w:Int),vP gb 0,vP rb 0,.map (some lb),.slice rA rn rc,vI (ck:Int),.slice A15 (un+1) WR,.slice A21 (en+1) c22,vI (rbk:Int),vP sg 0] 100 (0,0)),(lb,.obj (bG kv cl))] [VI,Tn_,Tr,V8,X1,Tp,(Tq++E11),Ts]) ⟨rfl,PeerR.mk (by rw[(gB (g:=gP S J) (w:=w) P now xs).1];exact q1_) (by rw[(gB (g:=gP S J) (w:=w) P now xs).2.2];exact q2_) (show (P.used++[xs]).length=un+1 by rw[aaK,q3_];rfl) (show (P.effs++[_]).length=en+1 by rw[aaK,q4_];rfl) (by rw[(gB (g:=gP S J) (w:=w) P now xs).2.1];exact q5_) hse_ (by rw[KT hjj hse_];exact acz.weak (aaJ _)) (by rw[KT hjj hse_];exact⟨by rw[oH];omega,by rw[oH];omega⟩) (by rw[Gp];exact hn_) hkv hr hrl (by rw[(gB (g:=gP S J) (w:=w) P now xs).1];exact hrr) Ys (by simp[hul]) (huu.snocI λ F2 h_=>hp F2 h_) Xd (by simp[hel]) (by show EfsT _ (P.effs++[l7 (gP S J now xs) (dT w P now).M]) _;rw[Qg hjj hse_];exact hee.snoc (by rw[hel,q4_]) ZN rfl) hse3_ hs (by rw[(gB (g:=gP S J) (w:=w) P now xs).1];exact hsc) hsn hsb hpl (λ _ _ h_=>by cases h_)⟩
theorem oO{a:Addr} (c:Nat){xs:List Eff}(hl:SrcIn Tryz.prog aB F (some a) n xs)(hb:n<=100000000):af1 35 #[.slice (some a) n c] [] F (λ u H'=>∃x:Option Addr×Nat×HL,H'=ap [] [x.2.2]/\(u=.slice x.1 n x.2.1/\ClS aB 112 xs x.1 x.2.1 x.2.2)):=by
 refine QG Tryz.func35<|ae 19 [] λ n1=>aao<|gD (A:=(some ⟨(n1+0),0,none⟩)) (B:=(some a)) (c':=c) fI xs 0 (λ a_ e_=>by cases e_;rfl) (m:=n) (tx:=45) hl.1.1.symm (by rw[hl.1.1];exact hb) (λ e_ he X w hR=>hl.2 c he X w hR) ?_;rintro A2 c3 T4 U8;refine OG 3<|QI [] [] [0] (.slice A2 xs.length c3) (ap [] [T4]) ⟨(A2,c3,T4),rfl,by rw[hl.1.1],_,U8⟩
theorem oP(c:Nat)(F:HL):af1 35 #[.slice none 0 c] [] F (λ u H'=>∃x:Option Addr×Nat×HL,H'=ap [] [x.2.2]/\(u=.slice x.1 0 x.2.1/\ClS aB 112 [] x.1 x.2.1 x.2.2)):=by
 refine QG Tryz.func35<|OG 18<|QJ (.slice none 0 0) (ap [] []) ⟨(none,0,[]),rfl,rfl,.nil _ _ _⟩
theorem ke{A:Option Addr} (c:Nat){xs:List Eff}(hl:SrcIn Tryz.prog aB F A n xs)(hb:n<=100000000):af1 35 #[.slice A n c] (ap [] []) F (λ u H'=>∃x:Option Addr×Nat×HL,H'=ap [] [x.2.2]/\(u=.slice x.1 n x.2.1/\ClS aB 112 xs x.1 x.2.1 x.2.2)):=by
 cases A with
 |some a=>exact oO c hl hb
 |none=>
  obtain rfl:n=0:=hl.1.2 rfl;obtain rfl:xs=[]:=aa6 hl.1.1;exact oP c F
theorem Gq{pl rn en:Nat}{now k:Nat}{effs:List (List Eff)}(hp:(pp,.lit [vI (pl:Int),vI (me:Int),vI (w:Int),vP gb 0,vP rb 0,.map (some lb),.slice rA rn rc,vI (ck:Int),.slice uA un uc,.slice eA en ec,vI (rbk:Int),vP sg 0] 100 (0,0))∈F)(hg:GameX rs_ ds_ bp gb mb S2 M k Tg)(hT:∀x∈Tg,x∈F)(h0:M.get 0=(now:Int))(ht:t<now)(htn:t<en)(he:RowL je 45 F eA en el)(hee:EfsT el effs Tq)(hTq:∀x∈Tq,x∈F)(aif:effs.getD t []=es)(aih:es.length<=100000000):af1 14 #[vP pp 0,vI (t:Int)] [] F (λ u H'=>∃x:Option Addr×Nat×HL,H'=ap [] [x.2.2]/\(u=.slice x.1 es.length x.2.1/\ClS aB 112 es x.1 x.2.1 x.2.2)):=by
 have aii:=he.len;refine QH Tryz.func14 hp<|OG 11<|aal ((t:Int)<0) 7 (λ h1=>?_) λ h1=>?_
 ·(exfalso;omega)
 ·refine OG 2<|aah (kc (aC hp) hg (λ x hx=>aC (hT x hx)) h0)<|OG 4<|aal ((t:Int)>=(now:Int)) 12 (λ h2=>?_) λ h2=>?_
  ·(exfalso;omega)
  ·refine ae 10 [.ro 0] λ _=>?_;obtain⟨qx3,ox3,Nx3,fx3,ao7,ajc,ahq,anH,aia⟩:=he.at (k:=t) (by omega);refine aw 16 (congrArg (λ v_=>(.slice v_ en ec:Value)) ajc)<|RN.ro (λ _=>(mc hp (mc ahq mn)))<|ah 2 [.ix t,.rorow 1 (ox3+t) 0] [(ox3*1+t*1)=(ox3+t)*1+0/\(ox3+t)<Nx3,(t:Int)=((t:Nat):Int)/\t<en] λ _=>aw 19 (congrArg (λ v_=>(.slice v_.A v_.n v_.c:Value)) aia) ?_;obtain⟨hn_,WB⟩:=hee F hTq t (by rw[he.len];exact htn);rw[aif] at hn_ WB;obtain⟨Ae,eA_⟩:∃A_,(el.getD t je.dflt).A=A_:=⟨_,rfl⟩;rw[eA_] at WB;refine aw 19 (show (Value.slice (el.getD t je.dflt).A (el.getD t je.dflt).n (el.getD t je.dflt).c)=.slice Ae es.length (el.getD t je.dflt).c by rw[eA_,hn_])<|Ss (ke ((el.getD t je.dflt).c) (WB.up.src fI (by decide)) aih) ?_;rintro _ ⟨A4,c5,T6⟩ ⟨rfl,hc7⟩;dsimp only at hc7;refine OG 3<|QI [] [] [0] (.slice A4 es.length c5) (ap [] [T6]) ⟨(A4,c5,T6),rfl,rfl,hc7⟩
theorem Ct{pl:Nat}{kv:List (Int×Value×Nat)}{c:Nat}(h:PeerR rs_ ds_ bp pp pl me w S J P kv c sn X G)(hF:∀x∈G,x∈F)(hln:∀k,k<P.used.length->(P.used.getD k []).length<=1000000)(Vu:P.rows.length<=1000000)(YQ:P.ck<=1000000)(hun:P.used.length<=1000000):af0 57 #[vP pp 0] F (.tuple #[vI (((wr P.rows P.ck P.used).getD 0:Nat):Int),.bool (wr P.rows P.ck P.used).isSome]):=by
 cases h with
 |mk q1_ q2_ q3_ q4_ q5_ hse_ hg hb hn hkv hr hrl hrr hu hul huu he hel hee hse3_ hs hsc hsn hsb hpl hX=>
  subst q1_;subst q2_;subst q3_;exact Cq (hF _ (aaB _ aaC)) (by have h_:=hr.toRowL λ x hx=>hF x (by simp[ap,hx]);rwa [hrl] at h_) (hrr F λ x hx=>hF x (by simp[ap,hx])) (by have h_:=hu.toRowL λ x hx=>hF x (by simp[ap,hx]);rwa [hul] at h_) (huu F λ x hx=>hF x (by simp[ap,hx])) hln Vu YQ hun
theorem vB{pl:Nat}{kv:List (Int×Value×Nat)}{c:Nat}(h:PeerR rs_ ds_ bp pp pl me w S J P kv c sn X G)(hF:∀x∈G,x∈F){now:Nat}(h0:P.M.get 0=(now:Int))(ht:t<now)(htn:t<P.effs.length)(hes:P.effs.getD t []=es)(h8:es.length<=100000000):af1 14 #[vP pp 0,vI (t:Int)] (ap [] []) F (λ u H'=>∃x:Option Addr×Nat×HL,H'=ap [] [x.2.2]/\(u=.slice x.1 es.length x.2.1/\ClS aB 112 es x.1 x.2.1 x.2.2)):=by
 cases h with
 |mk q1_ q2_ q3_ q4_ q5_ hse_ hg hb hn hkv hr hrl hrr hu hul huu he hel hee hse3_ hs hsc hsn hsb hpl hX=>
  exact Gq (hF _ (aaB _ aaC)) hg (λ x hx=>hF x (by simp[ap,hx])) h0 ht (by omega) (by have h_:=he.toRowL λ x hx=>hF x (by simp[ap,hx]);rwa [hel] at h_) hee (λ x hx=>hF x (by simp[ap,hx])) hes h8
theorem PInv.ringAt{g:Nat->ρ->Gm}{P:PS ρ}{V:List ρ}(h:PInv g c0 w P V m)(e:P.ms≠[]):V.length=P.a+P.ms.length\/V.length+1=P.a+P.ms.length:=by
 rcases h.ring with ⟨h1,_⟩|⟨_,h1⟩
 ·exact absurd h1 e
 ·omega
theorem KV{now:Nat}:(tT w M a ms now).1.cs=M.cs:=by
 unfold tT;split
 ·rfl
 ·unfold dZ;dsimp only;split <;> rfl
theorem KW{pl:Nat}{kv:List (Int×Value×Nat)}{c:Nat}{q:Rw}(h:PeerR rs_ ds_ bp pp pl me w S J P kv c sn (some (q,xs)) G)(hI:PInv (gP S J) (bz S S.nb) w P V m)(hV:SetV S)(hvl:V.length<50)(hr0:∀r∈V,RowOk S.players r)(hxs:RowOk S.players xs)(hw:1<=w/\w<=12)(YS:c<=4000)(Vm:∀i,i<=50->(J i).1<5/\AtOk F bp (i:Int) (J i))(hE:cF F)(ht:t=V.length):af1 60 #[vP pp 0,.slice q.A q.n q.c] (ap [] [G]) F (λ u H'=>∃x,H'=ap [] [x]/\(u=vI 0/\PeerR rs_ ds_ bp pp pl me w S J (lM (gP S J) w P V.length xs) kv (c+1) sn none x)):=by
 subst ht;rw[bm];have aec:=hV.pl;have hxl:=hxs.1;have ang:P.used.length=V.length-P.ck:=by rw[hI.used,aaY]
 have hI2:=hI.len_cs;have hI3:=hI.room;cases h with
 |mk q1_ q2_ q3_ q4_ q5_ hse_ hg hb hn hkv hr hrl hrr hu hul huu he hel hee hse3_ hs hsc hsn hsb hpl hX=>
  have hte:=hI.te hV hse_ (by omega) hr0;have hp:=hX q xs rfl;have hx:=hp _ (λ y hy=>hy);cases hx with
  |mk b o N1 full cc hI1 hir hx1 hcap=>
   exact(KU q1_ q2_ q3_ q4_ q5_ hse_ hg hb hn hkv hr hrl hrr hu hul huu he hel hee hse3_ hs hsc hsn hsb hpl hX o cc (J V.length) xs rfl hI1 hir (by omega) hx1 hp hte.t0 (by omega) (λ e_=>hI.ringAt e_) hI.marks ⟨hw.1,by omega⟩ (by omega) YS (Vm _ (by omega)).1 (by rw[sO (N:=P.M) KV,hte.t0];exact(Vm _ (by omega)).2) hE ((hI.tk hV hse_ hvl hr0 hxs).cs KV.symm) (by omega) (by omega)).tl
section
variable {S:Setup} {J:Nat->Nat×Int} {w m:Nat} {P:PS (List Inp)} {V:List (List Inp)}
theorem sY{g:Nat->List Inp->Gm}(rf:Nat->List Inp):∀ (n:Nat) (P:PS (List Inp)) (now:Nat),ge g w rf (n+1) P now=lM g w (ge g w rf n P now) (now+n) (rf (now+n))
 |0,_,_=>rfl
 |n+1,P,now=>by
  rw[ge,sY rf n];show lM g w (ge g w rf n (lM g w P now (rf now)) (now+1)) (now+1+n) (rf (now+1+n))=lM g w (ge g w rf (n+1) P now) (now+(n+1)) _;rw[show now+1+n=now+(n+1) by omega];rfl
theorem pW{rf:Nat->List Inp}:∀ (n now:Nat) {r:List Inp},r∈jz rf n now->∃t,r=rf t
 |0,_,_,h=>by cases h
 |n+1,now,r,h=>by
  rw[jz] at h;rcases abL.1 h with h|h
  ·exact⟨_,h⟩
  ·exact pW n (now+1) h
theorem PInv.loop{pl:Int}(h:PInv (gP S J) c0 w P V m)(hw:1<=w)(hT:T<=P.rows.length+w)(rf:Nat->List Inp)(hrf:∀t,RowOk pl (rf t))(hrc:∀t,t<P.rows.length->P.rows[t]?=some (rf t))(hV:∀r∈V,RowOk pl r){n1:Nat}(WE:dY P V.length=n1){P1:PS (List Inp)}(hP1:Go.Proofs.YtjokannbjmndfaaGreatDoor.adv1 P=P1){i:Nat}(hi:n1+i<=T) :
  PInv (gP S J) c0 w (ge (gP S J) w rf i P1 n1) (V.take n1++jz rf i n1) (min (n1+i) P.rows.length)/\(V.take n1++jz rf i n1).length=n1+i/\(∀r∈V.take n1++jz rf i n1,RowOk pl r)/\(ge (gP S J) w rf i P1 n1).rows=P.rows:=by
 subst WE;subst hP1;obtain⟨k1,k2,k3,k4,k5⟩:=h.adv1;generalize Go.Proofs.YtjokannbjmndfaaGreatDoor.adv1 P=P1 at *;generalize dY P V.length=n1 at *;have lV:(V.take n1).length=n1:=by rw[aaN];omega
 have hse3_:=pP (g:=gP S J) hw rf i P1 (V.take n1) (by rw[lV,k2];exact k1) (by rw[lV,k2];omega) (by rw[k2];exact hrc);rw[lV,k2] at hse3_;refine⟨hse3_,by rw[aaK,pO,lV],λ r hr=>?_,(nD (g:=gP S J) (w:=w) rf i P1 n1).1.trans k2⟩;rcases np.1 hr with hr|hr
 ·exact hV r (ac9 hr)
 ·obtain⟨t,rfl⟩:=pW _ _ hr;exact hrf t
theorem PInv.rollF{ρ:Type}[DecidableEq ρ]{g:Nat->ρ->Gm}{P:PS ρ}{V:List ρ}(h:PInv g c0 w P V m){x:Nat}(hx:wr P.rows P.ck P.used=some x):(P.a<=x/\x<P.a+P.ms.length)/\(P.M.base<=P.ms.getD (x-P.a) 0/\P.ms.getD (x-P.a) 0<=P.M.base+(P.M.lg.length:Int))/\(∀e∈P.M.lg.drop (P.ms.getD (x-P.a) 0-P.M.base).toNat,0<=e.1/\e.1<(P.M.cs.length:Int))/\P.ck<=x/\x-P.ck<=P.used.length/\x<=P.effs.length/\x<V.length:=by
 obtain⟨k1,k2,k3,k4,k5⟩:=wR hx;have hu:=h.used;have h1:=h.mV;have hse_:=h.ck;have hse3_:=h.mR;have hl:=h.len_cs;have ku:P.used.length=V.length-P.ck:=by rw[hu,aaY]
 have hxV:x<V.length:=by omega
 have hmx:m<=x:=by
  rcases aa9 x m with iN|Wq
  ·exfalso;apply k5;rw[hu,abi,show P.ck+(x-P.ck)=x by omega];have:=congrArg (·[x]?) h.eq;simpa [abn,iN] using this
  ·exact Wq
 have u_:P.ms≠[]:=by
  rcases h.ring with ⟨_,e⟩|⟨e,_⟩
  ·rw[e] at hxV;simp at hxV
  ·exact e
 have hba:=h.back u_;have hlen:x-P.a<P.ms.length:=by
  rcases h.ring with ⟨e,_⟩|⟨_,e|e⟩
  ·exact absurd e u_
  ·omega
  ·omega
 obtain⟨mk,WY⟩:∃mk,P.ms[x-P.a]?=some mk:=⟨_,aa1 hlen⟩;have hr:=h.rst _ _ WY;have eg:P.ms.getD (x-P.a) 0=mk:=by rw[aaG,WY];rfl
 rw[eg];exact⟨by omega,⟨hr.lo,hr.hi⟩,hr.ent,k1,by omega,by omega,hxV⟩
theorem Gr{ρ:Type}[DecidableEq ρ]{P:PS ρ}{x:Nat}(hx:wr P.rows P.ck P.used=some x):adv1 P=zM P x:=by unfold adv1;rw[hx]
theorem Gs{ρ:Type}[DecidableEq ρ]{P:PS ρ}(hx:wr P.rows P.ck P.used=none):adv1 P=P:=by unfold adv1;rw[hx]
end
theorem w7{pl:Nat}{kv:List (Int×Value×Nat)}{c:Nat}{cl rn en:Nat}{Tr:HL}(q1_:P.rows.length=rn)(q2_:P.ck=ck)(q3_:P.used.length=un)(q4_:P.effs.length=en)(q5_:P.rb=rbk)(hse_:SetEq S S2)(hg:GameX rs_ ds_ bp gb mb S2 P.M 0 Tg)(hb:0<=P.M.base/\P.M.base+(P.M.lg.length:Int)<=20000*(c:Int))(hn:RingH rb mb w P.a P.ms Tn)(hkv:LocIn kv)(hr:SlIs kG 57 rl rA rc Tr)(hrl:rl.length=rn)(hrr:RwsT rl P.rows Tp)(hu:SlX kG 57 ul uA uc Tu)(hul:ul.length=un)(huu:RwsT ul P.used Tp)(he:SlIs je 45 el eA ec Te)(hel:el.length=en)(hee:EfsT el P.effs Tq)(hse3_:SetEq S S3)(hs:GameX rs_ ds_ bp sg smb S3 N 99020000 Ts)(hsc:N.cs=WS S J P.rows sn)(hsn:sn<=rn)(hsb:0<=N.base/\N.base<=1000000*(sn:Int))(hpl:S.players=(pl:Int))(hX:∀p xs,X=some (p,xs)->∀F:HL,(∀y∈Tp,y∈F)->RwIn F xs p)(hI:PInv (gP S J) (bz S S.nb) w P V m)(hV:SetV S)(Z7:∀r∈V,RowOk S.players r)(Vr:∀r∈P.rows,RowOk S.players r)(Wd:me<pl)(hw:1<=w/\w<=12)(Vu:rn<50)(hvn:V.length<50)(YS:c<=3900)(hrb:P.rb<=1000)(Vm:∀i,i<=50->(J i).1<5/\AtOk F bp (i:Int) (J i))(hE:cF F)(ae3:tt<(V.length:Int)\/tt>(P.rows.length:Int)+(w:Int)):af1 33 #[vP pp 0,vI tt] (ap [(pp,.lit [vI (pl:Int),vI (me:Int),vI (w:Int),vP gb 0,vP rb 0,.map (some lb),.slice rA rn rc,vI (ck:Int),.slice uA un uc,.slice eA en ec,vI (rbk:Int),vP sg 0] 100 (0,0)),(lb,.obj (bG kv cl))] [Tg,Tn,Tr,Tu,Te,Tp,Tq,Ts]) F (λ u H'=>u=.tuple #[vI 0,vI 18]/\PeerR rs_ ds_ bp pp pl me w S J P kv c sn none H'):=by
 have aeb:=hV.pl;have aax:=hI.used;have ai3:=hI.len_cs;have aiZ:=hI.win;have ai0:=hI.room;have ai2:=hI.ck;have ai1:=hI.mV;have adR:P.used.length=V.length-P.ck:=by rw[aax,aaY]
 have h0:=(hI.te hV (f6 S) (by omega) Z7).t0;refine QF Tryz.func33 mn<|OG 8<|aak [] []<|afZ [0,1]<|aac [] 2 (λ X_=>(kc (pp:=pp) (rb:=rb) (lb:=lb) (sg:=sg) (pl:=pl) (me:=me) (w:=w) (rn:=rn) (rc:=rc) (ck:=ck) (un:=un) (uc:=uc) (en:=en) (ec:=ec) (rbk:=rbk) (rA:=rA) (uA:=uA) (eA:=eA) (eF 0) hg (aL 0) h0))<|afZ [3,4]<|RD.em (tt<(V.length:Int)) 16 (λ h1=>?_) λ h1=>?_
 ·refine afZ [5,6,8,7,9,10,11,12,13]<|afZ [14,15]<|QQ 8<|QI [] [0,1] [0,1,2,3,4,5,6,7] (.tuple #[vI 0,vI 18]) (ap [(pp,.lit [vI (pl:Int),vI (me:Int),vI (w:Int),vP gb 0,vP rb 0,.map (some lb),.slice rA rn rc,vI (ck:Int),.slice uA un uc,.slice eA en ec,vI (rbk:Int),vP sg 0] 100 (0,0)),(lb,.obj (bG kv cl))] [Tg,Tn,Tr,Tu,Te,Tp,Tq,Ts]) ⟨rfl,PeerR.mk q1_ q2_ q3_ q4_ q5_ hse_ hg hb hn hkv hr hrl hrr hu hul huu he hel hee hse3_ hs hsc hsn hsb hpl (λ _ _ h_=>by cases h_)⟩
 ·refine af [] [5,6,8,9,10,11] [.o 0]<|aac [] 7 (λ X_=>(iL (pp:=pp) (gb:=gb) (rb:=rb) (lb:=lb) (sg:=sg) (pl:=pl) (me:=me) (w:=w) (rn:=rn) (rc:=rc) (ck:=ck) (un:=un) (uc:=uc) (en:=en) (ec:=ec) (rbk:=rbk) (rA:=rA) (uA:=uA) (eA:=eA) (eF 0)))<|aH [] [12,13] [.nw] [aX ((rn:Int)+(w:Int))]<|fM 25 (congrArg (λ v_=>(vI v_:Value)) (show (if 6000<(rn:Int)+(w:Int) then 6000 else (rn:Int)+(w:Int))=(rn:Int)+(w:Int) from if_neg (by omega)))<|afZ [14,15]<|QQ 1<|aal (tt>(rn:Int)+(w:Int)) 27 (λ h2=>?_) λ h2=>?_
  ·refine OG 7<|QI [] [0,1] [0,1,2,3,4,5,6,7] (.tuple #[vI 0,vI 18]) (ap [(pp,.lit [vI (pl:Int),vI (me:Int),vI (w:Int),vP gb 0,vP rb 0,.map (some lb),.slice rA rn rc,vI (ck:Int),.slice uA un uc,.slice eA en ec,vI (rbk:Int),vP sg 0] 100 (0,0)),(lb,.obj (bG kv cl))] [Tg,Tn,Tr,Tu,Te,Tp,Tq,Ts]) ⟨rfl,PeerR.mk q1_ q2_ q3_ q4_ q5_ hse_ hg hb hn hkv hr hrl hrr hu hul huu he hel hee hse3_ hs hsc hsn hsb hpl (λ _ _ h_=>by cases h_)⟩
  ·(exfalso;omega)
theorem KX{pl:Nat}{kv:List (Int×Value×Nat)}{c:Nat}(h:PeerR rs_ ds_ bp pp pl me w S J P kv c sn X G)(hI:PInv (gP S J) (bz S S.nb) w P V m)(hV:SetV S)(Z7:∀r∈V,RowOk S.players r)(Vr:∀r∈P.rows,RowOk S.players r)(Wd:me<pl)(hw:1<=w/\w<=12)(Vu:P.rows.length<50)(hvn:V.length<50)(YS:c<=3900)(hrb:P.rb<=1000)(Vm:∀i,i<=50->(J i).1<5/\AtOk F bp (i:Int) (J i))(hE:cF F)(ae3:tt<(V.length:Int)\/tt>(P.rows.length:Int)+(w:Int)):af1 33 #[vP pp 0,vI tt] (ap [] [G]) F (λ u H'=>∃x,H'=ap [] [x]/\((λ u H'=>u=.tuple #[vI 0,vI 18]/\PeerR rs_ ds_ bp pp pl me w S J P kv c sn none H') u x)):=by
 rw[bm];cases h with
 |mk q1_ q2_ q3_ q4_ q5_ hse_ hg hb hn hkv hr hrl hrr hu hul huu he hel hee hse3_ hs hsc hsn hsb hpl hX=>
  exact(w7 q1_ q2_ q3_ q4_ q5_ hse_ hg hb hn hkv hr hrl hrr hu hul huu he hel hee hse3_ hs hsc hsn hsb hpl hX hI hV Z7 Vr Wd hw (by omega) hvn YS hrb Vm hE ae3).tl
theorem zX{pl:Nat}{kv:List (Int×Value×Nat)}{c:Nat}{cl rn en:Nat}{Tr:HL}(q1_:P.rows.length=rn)(q2_:P.ck=ck)(q3_:P.used.length=un)(q4_:P.effs.length=en)(q5_:P.rb=rbk)(hse_:SetEq S S2)(hg:GameX rs_ ds_ bp gb mb S2 P.M 0 Tg)(hb:0<=P.M.base/\P.M.base+(P.M.lg.length:Int)<=20000*(c:Int))(hn:RingH rb mb w P.a P.ms Tn)(hkv:LocIn kv)(hr:SlIs kG 57 rl rA rc Tr)(hrl:rl.length=rn)(hrr:RwsT rl P.rows Tp)(hu:SlX kG 57 ul uA uc Tu)(hul:ul.length=un)(huu:RwsT ul P.used Tp)(he:SlIs je 45 el eA ec Te)(hel:el.length=en)(hee:EfsT el P.effs Tq)(hse3_:SetEq S S3)(hs:GameX rs_ ds_ bp sg smb S3 N 99020000 Ts)(hsc:N.cs=WS S J P.rows sn)(hsn:sn<=rn)(hsb:0<=N.base/\N.base<=1000000*(sn:Int))(hpl:S.players=(pl:Int))(hX:∀p xs,X=some (p,xs)->∀F:HL,(∀y∈Tp,y∈F)->RwIn F xs p)(hI:PInv (gP S J) (bz S S.nb) w P V m)(hV:SetV S)(Z7:∀r∈V,RowOk S.players r)(Vr:∀r∈P.rows,RowOk S.players r)(Wd:me<pl)(hw:1<=w/\w<=12)(Vu:rn<50)(hvn:V.length<50)(YS:c<=3900)(hrb:P.rb<=1000)(Vm:∀i,i<=50->(J i).1<5/\AtOk F bp (i:Int) (J i))(hE:cF F)(hT1:V.length<=T)(hT2:T<=P.rows.length+w)(hT3:T<50):af1 33 #[vP pp 0,vI (T:Int)] (ap [(pp,.lit [vI (pl:Int),vI (me:Int),vI (w:Int),vP gb 0,vP rb 0,.map (some lb),.slice rA rn rc,vI (ck:Int),.slice uA un uc,.slice eA en ec,vI (rbk:Int),vP sg 0] 100 (0,0)),(lb,.obj (bG kv cl))] [Tg,Tn,Tr,Tu,Te,Tp,Tq,Ts]) F (λ u H'=>∃x:HL,H'=ap [] [x]/\(u=.tuple #[vI ((T-dY P V.length:Nat):Int),vI 0]/\PeerR rs_ ds_ bp pp pl me w S J (qH (gP S J) w P V.length T (ga pl me P.rows (ii kv))) kv (c+(T-dY P V.length)) sn none x)):=by
 have h:PeerR rs_ ds_ bp pp pl me w S J P kv c sn none (ap [(pp,.lit [vI (pl:Int),vI (me:Int),vI (w:Int),vP gb 0,vP rb 0,.map (some lb),.slice rA rn rc,vI (ck:Int),.slice uA un uc,.slice eA en ec,vI (rbk:Int),vP sg 0] 100 (0,0)),(lb,.obj (bG kv cl))] [Tg,Tn,Tr,Tu,Te,Tp,Tq,Ts]):=PeerR.mk q1_ q2_ q3_ q4_ q5_ hse_ hg hb hn hkv hr hrl hrr hu hul huu he hel hee hse3_ hs hsc hsn hsb hpl (λ _ _ h_=>by cases h_);obtain⟨G,eG⟩:∃G,G=ap [(pp,.lit [vI (pl:Int),vI (me:Int),vI (w:Int),vP gb 0,vP rb 0,.map (some lb),.slice rA rn rc,vI (ck:Int),.slice uA un uc,.slice eA en ec,vI (rbk:Int),vP sg 0] 100 (0,0)),(lb,.obj (bG kv cl))] [Tg,Tn,Tr,Tu,Te,Tp,Tq,Ts]:=⟨_,rfl⟩;rw[<- eG] at h;have aeb:=hV.pl;have aax:=hI.used;have ai3:=hI.len_cs;have aiZ:=hI.win;have ai0:=hI.room;have ai2:=hI.ck;have ai1:=hI.mV;have adR:P.used.length=V.length-P.ck:=by rw[aax,aaY]
 have h0:=(hI.te hV (f6 S) (by omega) Z7).t0;have aeo:∀k,k<P.used.length->(P.used.getD k []).length<=1000000:=λ k hk=>by have h_:=(Z7 _ (List.mem_of_mem_drop (by rw[<- aax];exact iI hk []))).1;omega
 obtain⟨k1,k2,k3,k4,k5⟩:=hI.adv1;obtain⟨n1,WE⟩:∃n,dY P V.length=n:=⟨_,rfl⟩;obtain⟨P1,hP1⟩:∃p,adv1 P=p:=⟨_,rfl⟩;rw[WE] at k1 k3 k4 k5;rw[hP1] at k1 k2 k5;have ad4:∀t,RowOk S.players ((ga pl me P.rows (ii kv)) t):=λ t=>by rw[hpl];exact wW (by rw[<- hpl];exact Vr) (λ t x e=>hkv.ok e) t
 refine QF Tryz.func33 mn<|OG 8<|aak [] []<|afZ [0,1]<|aac [] 2 (λ X_=>(kc (pp:=pp) (rb:=rb) (lb:=lb) (sg:=sg) (pl:=pl) (me:=me) (w:=w) (rn:=rn) (rc:=rc) (ck:=ck) (un:=un) (uc:=uc) (en:=en) (ec:=ec) (rbk:=rbk) (rA:=rA) (uA:=uA) (eA:=eA) (eF 0) hg (aL 0) h0))<|afZ [3,4]<|RD.em ((T:Int)<(V.length:Int)) 16 (λ h1=>?_) λ h1=>?_
 ·(exfalso;omega)
 ·refine af [] [5,6,8,9,10,11] [.o 0]<|aac [] 7 (λ X_=>(iL (pp:=pp) (gb:=gb) (rb:=rb) (lb:=lb) (sg:=sg) (pl:=pl) (me:=me) (w:=w) (rn:=rn) (rc:=rc) (ck:=ck) (un:=un) (uc:=uc) (en:=en) (ec:=ec) (rbk:=rbk) (rA:=rA) (uA:=uA) (eA:=eA) (eF 0)))<|aH [] [12,13] [.nw] [aX ((rn:Int)+(w:Int))]<|fM 25 (congrArg (λ v_=>(vI v_:Value)) (show (if 6000<(rn:Int)+(w:Int) then 6000 else (rn:Int)+(w:Int))=(rn:Int)+(w:Int) from if_neg (by omega)))<|afZ [14,15]<|QQ 1<|aal ((T:Int)>(rn:Int)+(w:Int)) 27 (λ h2=>?_) λ h2=>?_
  ·(exfalso;omega)
  ·refine OG 5<|Nr eG<|OG 2<|aah (Ct h (ar 0) aeo (by omega) (by omega) (by omega))<|OG 7<|RN.cut (σ:=HL) (λ G_=>⟨[(0,vP pp 0),(1,vI (T:Int))],[],[G_],PeerR rs_ ds_ bp pp pl me w S J P1 kv c sn none G_,0⟩) ?_ ?_
   ·intro UC;refine OG 5<|il ((wr P.rows P.ck P.used).isSome) 33 (λ h4=>?_) λ h4=>?_
    ·refine ae 5 [] λ _=>?_;obtain⟨x_,WV⟩:=adb.1 h4;obtain⟨r1_,r2_,r3_,r4_,r5_,r6_,r7_⟩:=hI.rollF WV;obtain rfl:x_=(wr P.rows P.ck P.used).getD 0:=by rw[WV];rfl
     refine aai [] [0] (Cs (x:=(wr P.rows P.ck P.used).getD 0) h r1_ (by omega) (by omega) r2_ r3_ (by omega) r4_ r5_ r6_ (by omega)) ?_;rintro _ T5 ⟨rfl,hr6⟩;refine ae 11 [] λ _=>UC T5 [] [0] ?_
     try dsimp only
     rw[<- hP1,Gr WV];exact hr6
    ·refine ae 2 [] λ _=>UC G [] [0] ?_
     try dsimp only
     rw[<- hP1,Gs (Option.not_isSome_iff_eq_none.1 h4)];exact h
   ·rintro G_ hG_;refine OG 15<|aan (σ:=Nat×HL) (λ ⟨i_,G_⟩=>⟨[(0,vP pp 0),(1,vI (T:Int)),(9,.func (.func 59) #[vP pp 0] #[]),(10,vI (i_:Int))],[],[G_],n1+i_<=T/\PeerR rs_ ds_ bp pp pl me w S J (ge (gP S J) w (ga pl me P.rows (ii kv)) i_ P1 n1) kv (c+i_) sn none G_,T-n1-i_⟩) (0,G_) [] [0] (⟨by omega,hG_⟩) ?_;rintro⟨i_,G_⟩ ⟨XB,hG_⟩ XO;obtain⟨li1,li2,li3,li4⟩:=hI.loop hw.1 hT2 (ga pl me P.rows (ii kv)) (λ t=>ad4 t) (λ t ht=>pT ht) Z7 WE hP1 (i:=i_) XB;obtain⟨Vi,hVi⟩:∃v,V.take n1++jz (ga pl me P.rows (ii kv)) i_ n1=v:=⟨_,rfl⟩;rw[hVi] at li1 li2 li3;have aha:=li1.te hV (f6 S) (by omega) li3;have acG:(ge (gP S J) w (ga pl me P.rows (ii kv)) i_ P1 n1).M.get 0=((n1+i_:Nat):Int):=by rw[aha.t0,li2]
    refine OG 4<|aah (oM hG_ (ar 0) acG)<|OG 4<|aal (((n1+i_:Nat):Int)<(T:Int)) 45 (λ h9=>?_) λ h9=>?_
    ·refine OG 10<|aah (oM hG_ (ar 0) acG)<|aai [] [0] (KQ hG_ (t:=n1+i_) (by rw[li4,<- hpl];exact Vr) (by rw[li4];omega) (by omega) (by omega) Wd) ?_;rintro _ ⟨I_,Ub⟩ ⟨rfl,abK⟩;dsimp only at abK;rw[li4] at abK;refine aai [] [0] (KW (V:=Vi) abK li1 hV (by omega) li3 (ad4 _) hw (by omega) (λ i hi=>⟨(Vm i hi).1,(Vm i hi).2.mono λ x hx=>aC hx⟩) (aC hE) rfl) ?_;rintro _ U2 ⟨rfl,WA⟩;rw[li2] at WA;refine ah 18 [.gen,.nw] [aX ((i_:Int)+1)] λ _=>XO (i_+1,U2) [] [0] ?_
     try dsimp only
     refine⟨⟨by omega,?_⟩,by omega⟩;rw[sY];exact WA
    ·refine OG 9<|aai [] [0] (zW hG_ (now:=n1+i_) acG (by rw[li4];exact li1.ck) (by rw[li4,li1.used,aaY,li2];omega) (by rw[li4];omega) (by omega)) ?_;rintro _ Vf ⟨rfl,ZM⟩;refine OG 9<|QI [] [] [0] (.tuple #[vI (i_:Int),vI 0]) (ap [] [Vf]) ?_;obtain rfl:i_=T-n1:=by omega
     refine⟨Vf,rfl,by rw[WE],?_⟩;unfold qH;rw[WE,hP1];rw[show n1+(T-n1)=T by omega] at ZM;exact ZM
theorem D4{pl:Nat}{kv:List (Int×Value×Nat)}{c:Nat}(h:PeerR rs_ ds_ bp pp pl me w S J P kv c sn X G)(hI:PInv (gP S J) (bz S S.nb) w P V m)(hV:SetV S)(Z7:∀r∈V,RowOk S.players r)(Vr:∀r∈P.rows,RowOk S.players r)(Wd:me<pl)(hw:1<=w/\w<=12)(Vu:P.rows.length<50)(hvn:V.length<50)(YS:c<=3900)(hrb:P.rb<=1000)(Vm:∀i,i<=50->(J i).1<5/\AtOk F bp (i:Int) (J i))(hE:cF F)(hT1:V.length<=T)(hT2:T<=P.rows.length+w)(hT3:T<50):af1 33 #[vP pp 0,vI (T:Int)] (ap [] [G]) F (λ u H'=>∃x:HL,H'=ap [] [x]/\(u=.tuple #[vI ((T-dY P V.length:Nat):Int),vI 0]/\PeerR rs_ ds_ bp pp pl me w S J (qH (gP S J) w P V.length T (ga pl me P.rows (ii kv))) kv (c+(T-dY P V.length)) sn none x)):=by
 rw[bm];cases h with
 |mk q1_ q2_ q3_ q4_ q5_ hse_ hg hb hn hkv hr hrl hrr hu hul huu he hel hee hse3_ hs hsc hsn hsb hpl hX=>
  exact(zX q1_ q2_ q3_ q4_ q5_ hse_ hg hb hn hkv hr hrl hrr hu hul huu he hel hee hse3_ hs hsc hsn hsb hpl hX hI hV Z7 Vr Wd hw (by omega) hvn YS hrb Vm hE hT1 hT2 hT3)
end Go.Proofs.YtjokannbjmndfaaGreatDoor
