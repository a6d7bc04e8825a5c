import Derived.Test.YtdppjkjbghbnjaaGreatDoorRows
import Derived.Test.YtdppjkjbghbnjaaGreatDoorChecked
import Derived.ProofKit
import Derived.OpenShut
import Derived.Carry
import Derived.Lay
import Derived.LaidHandle
import Derived.ChangeSlices
import Derived.Lib.LaidTab
import Derived.MakeChecks
import Derived.Test.YtdppjkjbghbnjaaGreatDoorC20
set_option maxHeartbeats 4000000
set_option maxRecDepth 100000
set_option linter.all false
namespace Go.Proofs.YtdppjkjbghbnjaaGreatDoor
open IntKind
open Go.RowKit
theorem J6(S S3:Setup)(rs_:List Bx)(ds_:List Dr)(bp ev Wi rp n rc cc t:Nat)(J:Nat -> Nat × Int)(rA cA:Option Addr)(rl:List Rw)(cl:List Ck)(xss:List (List Inp))(F:HL)(UP:(rp,.lit (Setup.l S3++[vP bp 0,vI (ev:Int),vP Wi 0,.slice rA n rc,.slice cA cl.length cc]) 127 (0,0))∈F)(VL:SetEq S S3)(hS3:SetIn F S3)(hM:MapIn F S3 rs_ ds_)(hV:SetV S)(Sq:S.rn <= 1000000)(Ut:S.dn <= 1000000)(D_:48 <= sizeOf S /\ sizeOf S <= 1000)(hv:jL S rs_ ds_=0)(hr:RowL gD 38 F rA n rl)(hw:RwsIn F rl xss)(hc:RowL FB 131 F cA cl.length cl)(hck:∀k,k<cl.length -> ∃q,cl.getD k FB.dflt=⟨some ⟨q,0,none⟩,(WS S J xss (k*ev)).length,(WS S J xss (k*ev)).length,kW (WS S J xss (k*ev))⟩ /\ (q,.rows 1 (WS S J xss (k*ev)).length (aE (WS S J xss (k*ev))) 3 (0,0))∈F)(hcl:cl.length=n / ev+1)(SH:1 <= ev /\ ev <= 60)(hE:cM F)(Ss:n <= 50)(q_:∀i,i<n -> RowOk S.players (xss.getD i []))(S4:∀i,i<n -> (J i).1<5 /\ AtOk F bp (i:Int) (J i))(ht:t <= n):Sp Tryz.prog 38 #[vP rp 0,vI (t:Int)] (ap [] []) F (λ u H'=>∃q:Nat,H'=ap [(q,.rows 1 (WS S J xss t).length (aE (WS S J xss t)) 3 (0,0))] [] /\ u=.tuple #[vS q 0 (WS S J xss t).length (WS S J xss t).length,vI ((t:Int) % (ev:Int)),vI 0]):=by
 have VG:(t:Int) % (ev:Int)=((t % ev:Nat):Int):=by first|rfl|norm_cast
 have acD:t / ev*ev+t % ev=t:=by rw[Nat.mul_comm];exact Nat.div_add_mod t ev
 have Vu:t / ev<cl.length:=by rw[hcl];exact Nat.lt_succ_of_le (Nat.div_le_div_right ht)
 have hq_:(t:Int) / (ev:Int)=((t / ev:Nat):Int):=by first|rfl|norm_cast
 obtain⟨d,hd⟩:∃d,t / ev=d:=⟨_,rfl⟩;rw[hd] at acD Vu hq_;obtain⟨f,hf⟩:∃f,d*ev=f:=⟨_,rfl⟩;rw[hf] at acD;have Zj:=vY (J:=J) hV (jO S) Ss q_ (i:=f) (by omega);refine Sp.runM Tryz.func38 rfl (mc UP mn) (A:=[]) (Ts:=[]) rfl λ w0=>?_;refine ae 13 [] λ n1=>aam ((t:Int)<0) 15 (λ h2=>?_) λ h2=>?_
 ·(exfalso;omega)
 ·refine ae 10 [.ro 0] λ _=>aam ((t:Int)>(n:Int)) 23 (λ h3=>?_) λ h3=>?_
  ·(exfalso;omega)
  ·refine ae 4 [] λ _=>aal [13] []<|ag [] [0,4,1,5,2,6,3,7] [.ro 0,.ro 0,.ro 0,.ro 0,.ro 0,.ro 0,.ro 0,.ro 0,.ro 0,.ro 0,.ro 0,.ro 0,.ro 0,.ro 0,.ro 0,.ro 0,.ro 0]<|fG 8 12 ?_ ?_
   ·refine aaf [] (Hp:=[]) (Tp:=[]) [] [] (lA S3 rs_ ds_ bp _ hS3.up.cl hM.up (by rw[VL.nb];have:=hV.nb;omega) (by rw[VL.nums.2.2.2.1];exact Sq) (by rw[VL.nums.2.2.2.2.1];exact Ut) (by rw[VL.size];omega) (by rw[VL.val];exact hv) 99100000 (by decide)) ?_;rintro _ ⟨g4,S5,T6⟩ ⟨rfl,he7,hG8⟩;dsimp only at he7 hG8;obtain⟨Zc,UK⟩:=hG8.x;have Tl:=VL.trans2 he7;refine ag [] [9,10,11] []<|aae 12 (aag [] [] λ n9=>?_);refine aae 13 (aag [] [.own 0] λ _=>?_);refine ag [] [14] []<|aad<|ae 13 [] λ _=>aal [14] []<|aA [] [0,1,5,6,2,7,3,8,4,9,10] [.own 0,.ro 0,.ro 0,.nw] [0 <= (t:Int) /\ (0:Int)<(ev:Int) /\ (t:Int) <= 9223372036854775807] ?_;obtain⟨aet,Uj,aaO,agX,adw,Xn,VF,ab8,WN⟩:=hc.at (k:=d) Vu;refine fW 43 (congrArg (λ v_=>(.slice v_ cl.length cc:Value)) Xn)<|RD.ro (λ _=>(mc UP (mc VF mn)))<|uO [] [11,12,13] [.ix d,.rorow 1 (Uj+d) 0] [(Uj*2+d*2)=(Uj+d)*2+0 /\ (Uj+d)<aaO,(t:Int) / (ev:Int)=((d:Nat):Int) /\ d<cl.length] (ac ⟨by omega,by omega⟩ (ac ⟨hq_,Vu⟩ an))<|fW 52 (congrArg (λ v_=>(.slice v_.A v_.n v_.c:Value)) WN) ?_;obtain⟨qk,ek_,YD⟩:=hck d Vu;rw[hf] at ek_ YD;refine fW 52 (congrArg (λ v_:Ck=>Value.slice v_.A v_.n v_.c) ek_)<|RD.ro (λ _=>(mc UP (mc VF (mc YD mn))))<|aae 14 (aaf [] [] [0] (zi (cap:=(WS S J xss f).length) (k:=99020000) (n:=(sizeOf S).toNat) (q:=qk) (t:=f) (M1:=(⟨(WS S J xss f),[],0⟩:MemS)) (UK.weak (by omega)) (au YD) (by show (WS S J xss f).length=_;omega) (by show (cV S3 S3.nb).length=_;rw[fZ,VL.size]) (by omega) (sa hV Tl Ss q_ (by omega)) (by omega)) ?_);rintro _ ⟨M11,Yo⟩ ⟨rfl,acB,Z0,Xk⟩;dsimp only at acB Z0 Xk;refine ag [] [15] []<|aad<|ai 29 [.ro 0,.nw,.nw] [bn ((t:Int)-((t:Int) % (ev:Int))),0 <= (t:Int) /\ (0:Int)<(ev:Int) /\ (t:Int) <= 9223372036854775807] λ _=>aK 66 (congrArg (λ v_=>(vI v_:Value)) (show (t:Int)-(t:Int) % (ev:Int)=(f:Int) by rw[VG];omega))<|aaj (Hp:=[]) (Tp:=[]) [] [] (zj (f:Int) (t:Int) rp _) ?_;rintro _ m16 rfl;refine ae 3 [] λ _=>RN.range (σ:=Nat × MemS × HL) (τ:=Nat × MemS × HL × Rw) (encs:=λ (x_:Rw)=>#[.slice x_.A x_.n x_.c]) (xs:=(Km rl f t)) (enters_of Tryz.func93 (by kernel_rfl) rfl) (λ ⟨m_,N_,T_⟩=>([],[T_])) (λ i_ ⟨m_,N_,T_⟩=>m_=i_ /\ N_.cs=(⟨WS S J xss (f+m_),[],0⟩:MemS).cs /\ (0 <= N_.base /\ N_.base <= 1000000*(m_:Int)) /\ GameX rs_ ds_ bp g4 Zc S5 N_ 99020000 T_) (λ c_ ⟨m_,N_,T_⟩=>False) (λ ⟨m_,N_,T_,p_⟩=>⟨[(4,vP (n1+0) 0),(5,vP (n1+1) 0),(6,vP (n1+2) 0),(7,vP (n9+0) 0),(10,vI ((t:Int) % (ev:Int))),(11,.slice p_.A p_.n p_.c)],[],[T_],True,0⟩) (λ i_ x_ ⟨m_,N_,T_,p_⟩=>m_=i_ /\ p_=rl.getD (f+m_) gD.dflt /\ m_<t-f /\ N_.cs=(⟨WS S J xss (f+m_),[],0⟩:MemS).cs /\ (0 <= N_.base /\ N_.base <= 1000000*(m_:Int)) /\ GameX rs_ ds_ bp g4 Zc S5 N_ 99020000 T_) (0,M11,Yo) (⟨rfl,acB,⟨by rw[Z0];exact Int.le_refl 0,by rw[Z0];exact Int.le_refl 0⟩,Xk⟩) [] [0] (C9 S3 bp ev Wi rp n rc cc f t (m16+1) (m16+2) (m16+0) rA cA rl cl _ (aw 1) (aw 0) (aw 2) (au UP) hr.up ⟨by omega,ht,by omega⟩) ?_ ?_ ?_ ?_
    ·rintro l_ i_ x_ ⟨m_,N_,T_⟩ Y17 w18 abG ⟨rfl,Sv,Wd,Uf⟩ aeC;refine ae 3 [] λ _=>?_;refine aeC (m_,N_,T_,x_) [] [0] ?_
     try dsimp only
     exact⟨rfl,(wg abG).2,(wg abG).1,Sv,Wd,Uf⟩
    ·rintro l_ i_ x_ ⟨m_,N_,T_,p_⟩ Y21 w22 akh ⟨rfl,hp_,ZH,Sv,Wd,Uf⟩;obtain⟨bk,ok,Nk,fk,ck,aaF,hIk,hik,hxk,WV⟩:=hw.get (k:=f+m_) (by rw[hr.len];omega);refine aK 11 (congrArg (λ v_:Rw=>Value.slice v_.A v_.n v_.c) (hp_.trans aaF))<|ae 5 [.ro 3] λ _=>aaj [] [0] (pB (c:=ck) (j:=J (f+m_)) Uf (by omega) (S4 (f+m_) (by omega)).1 (by rw[po Sv,(sa hV Tl Ss q_ (i:=f+m_) (by omega)).t0];exact(S4 (f+m_) (by omega)).2.mono λ x hx=>au (aay Y21 (aay _ hx))) (au (aay Y21 (aay _ hE))) (au (aay Y21 (aay _ hIk))) hik (by have h_:=(q_ (f+m_) (by omega)).1;have S7:=hV.pl;omega) hxk ((CZ hV Tl Ss q_ (by omega)).cs Sv.symm)) ?_;rintro _ ⟨M24,Y0⟩ ⟨rfl,adb,acA,acV⟩;dsimp only at adb acA acV;refine ae 12 [] λ _=>RN.rn (m_+1,M24,Y0) [] [0] ?_
     try dsimp only
     exact⟨rfl,acA.trans ((oS _ Sv).trans (qC Tl (f+m_)).symm),⟨acV.1,by omega⟩,adb⟩
    ·rintro d29 ⟨m_,N_,T_⟩  ⟨rfl,Sv,Wd,Uf⟩;refine ae 5 [.own 4] λ _=>aai (uB Uf (ar 0))<|aaj (Hp:=[]) (Tp:=[]) [] [] (v6 Uf (ar 0)) ?_;rintro _ q30 rfl;refine ae 6 [.own 8,.own 7,.own 6] λ _=>RN.retM [d29] [1] [.own 7,.own 6,.own 5] [0] [] (v:=.tuple #[vS q30 0 N_.cs.length N_.cs.length,vI ((t:Int) % (ev:Int)),vI 0]) (H':=(ap [(q30,.rows 1 N_.cs.length (aE N_.cs) 3 (0,0))] [])) ?_;have WU:N_.cs=WS S J xss t:=by rw[Sv,qD,show f+(t-f)=t by omega]
     exact⟨q30,by rw[WU],by rw[WU]⟩
    ·exact λ _ _ _ h=>h.elim
   ·refine aag [] [] λ n31=>aae 8 (aaf [] (Hp:=[]) (Tp:=[]) [] [] (lA S3 rs_ ds_ bp _ hS3.up.cl hM.up (by rw[VL.nb];have:=hV.nb;omega) (by rw[VL.nums.2.2.2.1];exact Sq) (by rw[VL.nums.2.2.2.2.1];exact Ut) (by rw[VL.size];omega) (by rw[VL.val];exact hv) 99100000 (by decide)) ?_);rintro _ ⟨g32,S33,YY⟩ ⟨rfl,acz,ada⟩;dsimp only at acz ada;obtain⟨Zc,UK⟩:=ada.x;have Tl:=VL.trans2 acz;refine ag [] [9,10,11] []<|aae 13 (aag [] [.own 0] λ _=>?_);refine ag [] [14] []<|aad<|ae 13 [] λ _=>aal [14] []<|aA [] [0,1,5,6,2,7,3,8,4,9,10] [.own 0,.ro 0,.ro 0,.nw] [0 <= (t:Int) /\ (0:Int)<(ev:Int) /\ (t:Int) <= 9223372036854775807] ?_;obtain⟨ajI,XH,ahe,amc,aiN,adn,YC,ahT,acr⟩:=hc.at (k:=d) Vu;refine fW 43 (congrArg (λ v_=>(.slice v_ cl.length cc:Value)) adn)<|RD.ro (λ _=>(mc UP (mc YC mn)))<|uO [] [11,12,13] [.ix d,.rorow 1 (XH+d) 0] [(XH*2+d*2)=(XH+d)*2+0 /\ (XH+d)<ahe,(t:Int) / (ev:Int)=((d:Nat):Int) /\ d<cl.length] (ac ⟨by omega,by omega⟩ (ac ⟨hq_,Vu⟩ an))<|fW 52 (congrArg (λ v_=>(.slice v_.A v_.n v_.c:Value)) acr) ?_;obtain⟨qk,ek_,YD⟩:=hck d Vu;rw[hf] at ek_ YD;refine fW 52 (congrArg (λ v_:Ck=>Value.slice v_.A v_.n v_.c) ek_)<|RD.ro (λ _=>(mc UP (mc YC (mc YD mn))))<|aae 14 (aaf [] [] [0] (zi (cap:=(WS S J xss f).length) (k:=99020000) (n:=(sizeOf S).toNat) (q:=qk) (t:=f) (M1:=(⟨(WS S J xss f),[],0⟩:MemS)) (UK.weak (by omega)) (au YD) (by show (WS S J xss f).length=_;omega) (by show (cV S3 S3.nb).length=_;rw[fZ,VL.size]) (by omega) (sa hV Tl Ss q_ (by omega)) (by omega)) ?_);rintro _ ⟨M38,Xs⟩ ⟨rfl,acy,ZZ,ac_⟩;dsimp only at acy ZZ ac_;refine ag [] [15] []<|aad<|ai 29 [.ro 0,.nw,.nw] [bn ((t:Int)-((t:Int) % (ev:Int))),0 <= (t:Int) /\ (0:Int)<(ev:Int) /\ (t:Int) <= 9223372036854775807] λ _=>aK 66 (congrArg (λ v_=>(vI v_:Value)) (show (t:Int)-(t:Int) % (ev:Int)=(f:Int) by rw[VG];omega))<|aaj (Hp:=[]) (Tp:=[]) [] [] (zj (f:Int) (t:Int) rp _) ?_;rintro _ m43 rfl;refine ae 3 [] λ _=>RN.range (σ:=Nat × MemS × HL) (τ:=Nat × MemS × HL × Rw) (encs:=λ (x_:Rw)=>#[.slice x_.A x_.n x_.c]) (xs:=(Km rl f t)) (enters_of Tryz.func93 (by kernel_rfl) rfl) (λ ⟨m_,N_,T_⟩=>([],[T_])) (λ i_ ⟨m_,N_,T_⟩=>m_=i_ /\ N_.cs=(⟨WS S J xss (f+m_),[],0⟩:MemS).cs /\ (0 <= N_.base /\ N_.base <= 1000000*(m_:Int)) /\ GameX rs_ ds_ bp g32 Zc S33 N_ 99020000 T_) (λ c_ ⟨m_,N_,T_⟩=>False) (λ ⟨m_,N_,T_,p_⟩=>⟨[(4,vP (n1+0) 0),(5,vP (n1+1) 0),(6,vP (n1+2) 0),(7,vP (n31+0) 0),(10,vI ((t:Int) % (ev:Int))),(11,.slice p_.A p_.n p_.c)],[],[T_],True,0⟩) (λ i_ x_ ⟨m_,N_,T_,p_⟩=>m_=i_ /\ p_=rl.getD (f+m_) gD.dflt /\ m_<t-f /\ N_.cs=(⟨WS S J xss (f+m_),[],0⟩:MemS).cs /\ (0 <= N_.base /\ N_.base <= 1000000*(m_:Int)) /\ GameX rs_ ds_ bp g32 Zc S33 N_ 99020000 T_) (0,M38,Xs) (⟨rfl,acy,⟨by rw[ZZ];exact Int.le_refl 0,by rw[ZZ];exact Int.le_refl 0⟩,ac_⟩) [] [0] (C9 S3 bp ev Wi rp n rc cc f t (m43+1) (m43+2) (m43+0) rA cA rl cl _ (aw 1) (aw 0) (aw 2) (au UP) hr.up ⟨by omega,ht,by omega⟩) ?_ ?_ ?_ ?_
    ·rintro l_ i_ x_ ⟨m_,N_,T_⟩ Y44 w45 abE ⟨rfl,Sv,Wd,Uf⟩ Zb;refine ae 3 [] λ _=>?_;refine Zb (m_,N_,T_,x_) [] [0] ?_
     try dsimp only
     exact⟨rfl,(wg abE).2,(wg abE).1,Sv,Wd,Uf⟩
    ·rintro l_ i_ x_ ⟨m_,N_,T_,p_⟩ Y48 w49 akg ⟨rfl,hp_,ZH,Sv,Wd,Uf⟩;obtain⟨bk,ok,Nk,fk,ck,aaF,hIk,hik,hxk,WV⟩:=hw.get (k:=f+m_) (by rw[hr.len];omega);refine aK 11 (congrArg (λ v_:Rw=>Value.slice v_.A v_.n v_.c) (hp_.trans aaF))<|ae 5 [.ro 3] λ _=>aaj [] [0] (pB (c:=ck) (j:=J (f+m_)) Uf (by omega) (S4 (f+m_) (by omega)).1 (by rw[po Sv,(sa hV Tl Ss q_ (i:=f+m_) (by omega)).t0];exact(S4 (f+m_) (by omega)).2.mono λ x hx=>au (aay Y48 (aay _ hx))) (au (aay Y48 (aay _ hE))) (au (aay Y48 (aay _ hIk))) hik (by have h_:=(q_ (f+m_) (by omega)).1;have S7:=hV.pl;omega) hxk ((CZ hV Tl Ss q_ (by omega)).cs Sv.symm)) ?_;rintro _ ⟨M51,XE⟩ ⟨rfl,ac9,acx,acT⟩;dsimp only at ac9 acx acT;refine ae 12 [] λ _=>RN.rn (m_+1,M51,XE) [] [0] ?_
     try dsimp only
     exact⟨rfl,acx.trans ((oS _ Sv).trans (qC Tl (f+m_)).symm),⟨acT.1,by omega⟩,ac9⟩
    ·rintro d56 ⟨m_,N_,T_⟩  ⟨rfl,Sv,Wd,Uf⟩;refine ae 5 [.own 4] λ _=>aai (uB Uf (ar 0))<|aaj (Hp:=[]) (Tp:=[]) [] [] (v6 Uf (ar 0)) ?_;rintro _ q57 rfl;refine ae 6 [.own 8,.own 7,.own 6] λ _=>RN.retM [d56] [1] [.own 7,.own 6,.own 5] [0] [] (v:=.tuple #[vS q57 0 N_.cs.length N_.cs.length,vI ((t:Int) % (ev:Int)),vI 0]) (H':=(ap [(q57,.rows 1 N_.cs.length (aE N_.cs) 3 (0,0))] [])) ?_;have WU:N_.cs=WS S J xss t:=by rw[Sv,qD,show f+(t-f)=t by omega]
     exact⟨q57,by rw[WU],by rw[WU]⟩
    ·exact λ _ _ _ h=>h.elim
def nv:Enc Int:=⟨1,λ p k=>match k with|0=>.int .u64 p|_=>default,0⟩
noncomputable def M7:TypeInfo:=match Tryz.prog.info? 129 with | some i=>i | none=>⟨.bool,"",0,0,false,0,0,none,false,#[]⟩
noncomputable def M8:Value:=match M7.zero with|some z=>z|none=>.bool false
theorem O4:EncOk nv Tryz.prog 129 M7 M8 where
 info:=by kernel_rfl
 zero:=by kernel_rfl
 size:=by kernel_rfl
 zsize:=by kernel_rfl
 zcell:=λ k hk=>by
  have h:∀k<1,M8.cells[k]?=some (nv.cell nv.dflt k):=by intro k hk;(iterate 1 (rcases k with _|k;· kernel_rfl));omega
  exact h k hk
 one:=λ x k=>by unfold nv;dsimp only;split <;> rfl
 bytes:=aaJ (by kernel_rfl)
theorem J7(h:Nat):kX [.int .u64 0]=aL nv (List.replicate h 0):=by
 have e:=lm (e:=nv) ([]:List Int) h;rw[List.nil_append] at e;rw[show List.replicate h (0:Int)=List.replicate h nv.dflt from rfl,e];funext i k;cases k with
 | zero=>rfl
 | succ k=>simp[kX,aL,nv]
theorem FC{h:Nat}{b:Nat}{T:TypeId}:SlIs nv T [] (some ⟨b,0,none⟩) h [(b,.rows 1 h (aL nv (List.replicate h 0)) T (0,0))]:=.inr ⟨b,0,List.replicate h 0,by simp,by rw[Nat.zero_add];rfl,by simp,aaL _,by simp⟩
theorem J8(S3:Setup)(bp ev Wi rp n rc cc:Nat)(rA cA:Option Addr)(cl:List Ck)(F:HL)(UP:(rp,.lit (Setup.l S3++[vP bp 0,vI (ev:Int),vP Wi 0,.slice rA n rc,.slice cA cl.length cc]) 127 (0,0))∈F):Sp Tryz.prog 69 #[vP rp 0] [] F (λ u H'=>u=vI (n:Int) /\ H'=[]):=by
 refine aau Tryz.func69 rfl (mc UP mn) (A:=[]) (Ts:=[]) rfl λ w0=>?_;refine ae 15 [.ro 0] λ _=>?_;exact aaq [] [] [] ⟨rfl,rfl⟩
def kK(W:Nat -> List Int)(ev m:Nat):List Int:=(List.range m).map λ k=>kW (W (k*ev))
theorem sm(W:Nat -> List Int)(ev m:Nat):(kK W ev m).length=m:=by simp[kK]
theorem zk(W:Nat -> List Int)(ev m:Nat):kK W ev (m+1)=kK W ev m++[kW (W (m*ev))]:=by simp[kK,List.range_succ]
theorem Bz(S3:Setup)(bp ev Wi rp n rc cc:Nat)(rA cA:Option Addr)(cl:List Ck)(W:Nat -> List Int)(F:HL)(UP:(rp,.lit (Setup.l S3++[vP bp 0,vI (ev:Int),vP Wi 0,.slice rA n rc,.slice cA cl.length cc]) 127 (0,0))∈F)(hc:RowL FB 131 F cA cl.length cl)(hck:∀k,k<cl.length -> ∃q,cl.getD k FB.dflt=⟨some ⟨q,0,none⟩,(W (k*ev)).length,(W (k*ev)).length,kW (W (k*ev))⟩ /\ (q,.rows 1 (W (k*ev)).length (aE (W (k*ev))) 3 (0,0))∈F)(hcl:cl.length <= 1000000):Sp Tryz.prog 68 #[vP rp 0] [] F (λ u H'=>∃x:Option Addr × Nat × HL,H'=ap [] [x.2.2] /\ (u=.slice x.1 cl.length x.2.1 /\ SlIs nv 129 (kK W ev cl.length) x.1 x.2.1 x.2.2)):=by
 refine aau Tryz.func68 rfl (mc UP mn) (A:=[]) (Ts:=[]) rfl λ w0=>?_;refine ai 28 [.ro 0,.mk 0 cl.length,.ro 0] [0=((0:Nat):Int) /\ (cl.length:Int)=((cl.length:Nat):Int) /\ 0 <= cl.length /\ 8*cl.length <= 140737488355328 /\ 1=1 /\ cl.length <= 9223372036854775807] λ n1=>aah 0 (congrArg (λ v_=>(.rows 1 cl.length v_ 129 (0,0):Blk)) (show (kX [.int .u64 0])=(aL nv (List.replicate cl.length 0)) from (J7 _)))<|wD 0<|aao (σ:=Nat × Option Addr × Nat × HL) (λ ⟨k_,A_,c_,T_⟩=>⟨[(3,.slice A_ k_ c_),(15,.slice cA cl.length cc),(16,vI (cl.length:Int)),(17,vI (k_:Int))],[],[T_],k_ <= cl.length /\ SlIs nv 129 (kK W ev k_) A_ c_ T_,cl.length-k_⟩) (0,some ⟨(n1+0),0,none⟩,cl.length,[((n1+0),.rows 1 cl.length (aL nv (List.replicate cl.length 0)) 129 (0,0))]) [] [0] (⟨aaL _,FC⟩) ?_;rintro⟨k_,A_,c_,T_⟩ ⟨Xy,Sr⟩ Sm;refine ae 6 [] λ _=>aam ((k_:Int)<(cl.length:Int)) 18 (λ h4=>?_) λ h4=>?_
 ·refine ae 7 [] λ _=>?_;obtain⟨qx5,I_,Wm,fx5,aaD,TY,US,ZB,Vq⟩:=hc.at (k:=k_) (by omega);refine aK 15 (congrArg (λ v_=>(.slice v_ cl.length cc:Value)) TY)<|RN.ro (λ _=>(mc UP (mc US mn)))<|ai 2 [.ix k_,.rorow 1 (I_+k_) 0,.rorow 1 (I_+k_) 1] [((I_*2+k_*2)+1)=(I_+k_)*2+1 /\ (I_+k_)<Wm,(I_*2+k_*2)=(I_+k_)*2+0 /\ (I_+k_)<Wm,(k_:Int)=((k_:Nat):Int) /\ k_<cl.length] λ _=>aK 20 (congrArg (λ v_=>(.agg #[.slice v_.A v_.n v_.c,.int .u64 v_.r]:Value)) Vq) ?_;obtain⟨qk,ek_,YD⟩:=hck k_ (by omega);refine aK 20 (congrArg (λ v_:Ck=>(.agg #[.slice v_.A v_.n v_.c,.int .u64 v_.r]:Value)) ek_)<|ae 9 (aab 3) λ n6=>iX O4 (kK W ev k_) [kW (W (k_*ev))] 0 0 (sm W ev k_).symm Sr (by rw[sm,List.length_singleton];omega) ?_;rintro A7 c8 T9 ⟨VS,aj5⟩;refine ai 8 [.nw] [bn ((k_:Int)+1)] λ _=>aK 15 (congrArg (λ v_=>(.slice v_ cl.length cc:Value)) TY.symm) ?_;refine Sm (k_+1,A7,c8,T9) [] [0] ?_
  try dsimp only
  exact⟨⟨by omega,by rw[zk];exact VS⟩,by omega⟩
 ·refine ae 12 [] λ _=>aaq [] [] [0] (v:=.slice A_ k_ c_) (H':=(ap [] [T_])) ?_;obtain rfl:k_=cl.length:=by omega
  exact⟨(A_,c_,T_),rfl,rfl,Sr⟩
section
variable {rs_:List Bx} {ds_:List Dr} {bp ev rp n:Nat} {S S2:Setup} {J:Nat -> Nat × Int} {W:Nat -> List Int} {pre xss:List (List Inp)} {G F:HL}
theorem QW(h:RecH rs_ ds_ bp ev rp S S2 W n pre G)(hF:∀x∈G,x∈F):Sp Tryz.prog 69 #[vP rp 0] [] F (λ u H'=>u=vI (n:Int) /\ H'=[]):=by
 cases h with
 | mk h3 hs hg hcs hb hr hrl hrr hc hcl hck=>exact J8 _ _ _ _ _ _ _ _ _ _ _ _ (hF _ (aaA _ (List.mem_singleton.2 rfl)))
theorem Mp(h:RecH rs_ ds_ bp ev rp S S2 W n pre G)(hF:∀x∈G,x∈F)(hn:n <= 1000):Sp Tryz.prog 68 #[vP rp 0] (ap [] []) F (λ u H'=>∃x:Option Addr × Nat × HL,H'=ap [] [x.2.2] /\ (u=.slice x.1 (n / ev+1) x.2.1 /\ SlIs nv 129 (kK W ev (n / ev+1)) x.1 x.2.1 x.2.2)):=by
 cases h with
 | mk h3 hs hg hcs hb hr hrl hrr hc hcl hck =>
  have hd:n / ev <= n:=Nat.div_le_self _ _;have key:=Bz _ _ _ _ _ _ _ _ _ _ _ W F (hF _ (aaA _ (List.mem_singleton.2 rfl))) (hc.toRowL λ x hx=>hF x (by simp[ap,hx])) (hck F λ x hx=>hF x (by simp[ap,hx])) (by omega);rw[hcl] at key;exact key
theorem M9(h:RecH rs_ ds_ bp ev rp S S2 (WS S J xss) n xss G)(hF:∀x∈G,x∈F)(hV:SetV S)(Sq:S.rn <= 1000000)(Ut:S.dn <= 1000000)(D_:48 <= sizeOf S /\ sizeOf S <= 1000)(hv:jL S rs_ ds_=0)(SH:1 <= ev /\ ev <= 60)(hE:cM F)(Ss:n <= 50)(q_:∀i,i<n -> RowOk S.players (xss.getD i []))(S4:∀i,i<n -> (J i).1<5 /\ AtOk F bp (i:Int) (J i)){t:Nat}(ht:t <= n):Sp Tryz.prog 38 #[vP rp 0,vI (t:Int)] (ap [] []) F (λ u H'=>∃q:Nat,H'=ap [(q,.rows 1 (WS S J xss t).length (aE (WS S J xss t)) 3 (0,0))] [] /\ u=.tuple #[vS q 0 (WS S J xss t).length (WS S J xss t).length,vI ((t:Int) % (ev:Int)),vI 0]):=by
 cases h with
 | mk h3 hs hg hcs hb hr hrl hrr hc hcl hck =>
  have h4:=hs F λ x hx=>hF x (by simp[ap,hx]);have h5:=hr.toRowL (F:=F) λ x hx=>hF x (by simp[ap,hx]);rw[hrl] at h5;exact J6 S _ rs_ ds_ bp ev _ rp n _ _ t J _ _ _ _ xss F (hF _ (aaA _ (List.mem_singleton.2 rfl))) h3 h4.1 h4.2 hV Sq Ut D_ hv h5 (hrr F λ x hx=>hF x (by simp[ap,hx])) (hc.toRowL λ x hx=>hF x (by simp[ap,hx])) (hck F λ x hx=>hF x (by simp[ap,hx])) hcl SH hE Ss q_ S4 ht
end
theorem so(n:Int)(F:HL)(hn:oV n)(hE:pS F):Sp Tryz.prog 34 #[vI n] (ap [] []) F (λ u H'=>∃x:Nat × HL,H'=ap [] [x.2] /\ (u=vP x.1 0 /\ Book2 4 (ay n 5).toNat (ay (i64.wrap (n+1)) 5).toNat x.1 x.2)):=by
 refine aau Tryz.func34 rfl mn (A:=[]) (Ts:=[]) rfl λ w0=>?_;refine ae 8 [] λ _=>aai (rY n _ hn) ?_;have hA1:=dg (n:=n) hn 5 (by decide);refine aaj (Hp:=[]) (Tp:=[]) [] [] (IX (ay n 5).toNat _ (by omega) (au hE)) ?_;rintro _ ⟨b2,T3⟩ ⟨rfl,Yj⟩;dsimp only at Yj;refine ae 27 [] λ _=>aai (rY (i64.wrap (n+1)) _ (JZ _)) ?_;have hA5:=dg (n:=i64.wrap (n+1)) (JZ _) 5 (by decide);refine aaj [] [0] (Md Yj 4 (by decide) (ay (i64.wrap (n+1)) 5).toNat _ (by omega) (au hE)) ?_;rintro _ T6 ⟨rfl,hB7⟩;refine ae 12 [] λ _=>aaq [] [] [0] (v:=vP b2 0) (H':=(ap [] [T6])) ?_;exact⟨(b2,T6),rfl,rfl,hB7⟩
theorem BA(S:Setup)(A:Option Addr)(n cap:Nat)(xs:List Int)(c:Int)(cnt:Nat)(F:HL)(hl:ArgL F A n xs)(hn:n <= 9223372036854775807)(hp:1 <= S.players /\ S.players <= 1000000)(hc:ay c 10=(cnt:Int))(h20:cnt <= 19):Sp Tryz.prog 35 #[Setup.v S,.slice A n cap,vI c] (ap [] []) F (λ u H'=>∃x:(Option Addr × Nat × List Rw) × HL × HL,H'=ap [] [x.2.1,x.2.2] /\ (u=.slice x.1.1 cnt x.1.2.1 /\ SlIs gD 38 x.1.2.2 x.1.1 x.1.2.1 x.2.1 /\ x.1.2.2.length=cnt /\ RwsT x.1.2.2 (eJ S.players xs cnt) x.2.2)):=by
 refine aau Tryz.func35 rfl mn (A:=[]) (Ts:=[]) rfl λ w0=>?_;refine ae 18 [] λ n1=>aap<|aap<|aao (σ:=Nat × Option Addr × Nat × List Rw × HL × HL) (λ ⟨t_,A_,c_,rs_,E_,T_⟩=>⟨[(1,.slice A n cap),(2,vI c),(3,vP (n1+0) 0),(7,.slice A_ t_ c_),(8,vI (t_:Int))],[((n1+0),.lit (Setup.l S) 31 (0,0))],[E_,T_],t_ <= cnt /\ t_ <= 20 /\ SlIs gD 38 rs_ A_ c_ E_ /\ rs_.length=t_ /\ RwsT rs_ (eJ S.players xs t_) T_,20-t_⟩) (0,none,0,[],[],[]) [0] [0,1] (⟨aaL _,aaL _,aat _ _,rfl,RwsT.nil⟩) ?_;rintro⟨t_,A_,c_,rs_,E_,T_⟩ ⟨ht_,al2,Sr,TI,Wg⟩ Sm;refine ae 5 [] λ _=>aai (yV hc (by decide) _)<|ae 3 [] λ _=>aam ((t_:Int)<(cnt:Int)) 12 (λ h4=>?_) λ h4=>?_
 ·refine ae 10 (ow 0 16) λ _=>aaj (Hp:=[]) (Tp:=[]) [] [] (Fw S A n cap xs (t_:Int) _ hl.up hn (by omega) (by omega)) ?_;rintro _ ⟨A5,c6,T7⟩ ⟨rfl,hs8,hz9⟩;dsimp only at hs8 hz9;refine ae 1 [] λ TG=>iX yJ rs_ [(⟨A5,S.players.toNat,c6⟩:Rw)] 1 0 TI.symm Sr (by simp;omega) ?_;rintro A11 c12 TF ⟨Um,Zf⟩;refine ai 9 [.nw] [bn ((t_:Int)+1)] λ _=>ll [2,1,0]<|my ?_;refine Sm (t_+1,A11,c12,rs_++[(⟨A5,S.players.toNat,c6⟩:Rw)],TF,T_++T7) [1] [1,0] ?_
  try dsimp only
  refine⟨⟨by omega,by omega,Um,by simp;omega,?_⟩,by omega⟩;rw[ze];exact Wg.snoc hs8 (by rw[fE];omega) (fE _ _ _ _).symm
 ·refine ae 12 [] λ _=>aaq [] [] [0,1] (v:=.slice A_ t_ c_) (H':=(ap [] [E_,T_])) ?_;obtain rfl:t_=cnt:=by omega
  exact⟨((A_,c_,rs_),E_,T_),rfl,rfl,Sr,TI,Wg⟩
theorem O5{e:Int}(S:Setup)(rs_:List Bx)(ds_:List Dr)(bp ev n cap:Nat)(J:Nat -> Nat × Int)(A:Option Addr)(rs:List Rw)(xss:List (List Inp))(F:HL)(hS:SetCl F S)(hM:MapIn F S rs_ ds_)(hV:SetV S)(h1:1 <= S.nb)(Sq:S.rn <= 1000000)(Ut:S.dn <= 1000000)(D_:(sizeOf S).toNat <= 1000000)(hv:jL S rs_ ds_=0)(SH:1 <= ev /\ ev <= 60)(hE:cM F)(hr:RowL gD 38 F A n rs)(hw:RwsIn F rs xss)(Ss:n <= 50)(q_:∀i,i<n -> RowOk S.players (xss.getD i []))(S4:∀i,i<n -> (J i).1<5 /\ AtOk F bp (i:Int) (J i))(he:e=(ev:Int)):Sp Tryz.prog 36 #[Setup.v S,vP bp 0,vI e,.slice A n cap] (ap [] []) F (λ u H'=>∃x:Nat × Setup × HL,H'=ap [] [x.2.2] /\ (u=vP x.1 0 /\ SetEq S x.2.1 /\ RecH rs_ ds_ bp ev x.1 S x.2.1 (WS S J xss) n xss x.2.2)):=by
 subst he;exact zh S rs_ ds_ bp ev n cap J A rs xss F hS hM hV h1 Sq Ut D_ hv SH hE hr hw Ss q_ S4
theorem J9(F:HL):Sp Tryz.prog 67 #[] (ap [] []) F (λ u H'=>∃b:Nat,H'=ap [(b,.lit [vI 5,.slice none 0 0,vI 0,vI 0,vI 0,vI 0,vI 0,vI 0,vI 0] 90 (0,0))] [] /\ u=Setup.v (mM b)):=by
 refine aau Tryz.func67 rfl mn (A:=[]) (Ts:=[]) rfl λ w0=>?_;refine ae 14 (ow 1 16) λ n1=>aaq (ow 1 16) [0] [] (v:=.agg #[vI 1,vS (n1+1) 0 1 1,vI 0,vI 0,vI 0,vI 0,.slice none 0 0,.slice none 0 0,vI 0,vI 0,vI 0,vI 0,vI 0,vI 0,vI 1,vI 0]) (H':=(ap [((n1+1),.lit [vI 5,.slice none 0 0,vI 0,vI 0,vI 0,vI 0,vI 0,vI 0,vI 0] 90 (0,0))] [])) ?_;exact⟨_,rfl,rfl⟩
theorem zl(F:HL)(hE0:pS F)(YS:cM F):Sp Tryz.prog 39 #[] [] F (λ u H'=>u=.bool true /\ H'=[]):=by
 refine aau Tryz.func39 rfl mn (A:=[]) (Ts:=[]) rfl λ w0=>?_;refine ae 17 [] λ _=>aap<|aap<|aao (σ:=Nat × Option Addr × Nat × List Rw × HL × HL) (λ ⟨t_,A_,c_,rs_,E_,T_⟩=>⟨[(1,.slice A_ t_ c_),(2,vI (t_:Int))],[],[E_,T_],t_ <= 25 /\ SlIs gD 38 rs_ A_ c_ E_ /\ rs_.length=t_ /\ RwsT rs_ (pU t_) T_,25-t_⟩) (0,none,0,[],[],[]) [] [0,1] (⟨aaL _,aat _ _,rfl,RwsT.nil⟩) ?_;rintro⟨t_,A_,c_,rs_,E_,T_⟩ ⟨ht_,Sr,TI,Wg⟩ S_;refine ae 7 [] λ _=>aam ((t_:Int)<25) 8 (λ h3=>?_) λ h3=>?_
 ·refine ae 10 [] λ n4=>iX yJ rs_ [(⟨some ⟨(n4+0),0,none⟩,1,1⟩:Rw)] 0 0 TI.symm Sr (by simp;omega) ?_;rintro A5 c6 T7 ⟨hs8,hz9⟩;refine ai 9 [.nw] [bn ((t_:Int)+1)] λ _=>aak 1 (.rows 3 1 (aL cL [⟨0,0,0⟩]) 40 (0,0))<|wD 1<|ll [2,0,1]<|my ?_;refine S_ (t_+1,A5,c6,rs_++[(⟨some ⟨(n4+0),0,none⟩,1,1⟩:Rw)],T7,T_++[((n4+0),.rows 3 1 (aL cL [⟨0,0,0⟩]) 40 (0,0))]) [] [1,0] ?_
  try dsimp only
  refine⟨⟨by omega,hs8,by simp;omega,?_⟩,by omega⟩;rw[show pU (t_+1)=pU t_++[[⟨0,0,0⟩]] from List.replicate_succ'];exact Wg.snoc (SlIs.one (e:=cL) (x:=⟨0,0,0⟩) (b:=(n4+0))) (by decide) rfl
 ·obtain rfl:t_=25:=by omega
  refine ae 8 [] λ _=>aaj (Hp:=[]) (Tp:=[]) [] [] (J9 _) ?_;rintro _ b10 rfl;refine aak 0 (.rows 9 1 (je (mM b10).bods) 90 (0,0))<|aaj (Hp:=[]) (Tp:=[]) [] [] (so 0 _ (by decide) (au hE0)) ?_;rintro _ ⟨b11,Yo⟩ ⟨rfl,Xl⟩;dsimp only at Xl
  replace Xl:Book2 4 (ay 0 5).toNat (ay 1 5).toNat b11 Yo:=Xl
  refine ae 1 [] λ _=>aaj (Hp:=[]) (Tp:=[]) [] [] (zh (mM b10) [] [] b11 10 25 c_ (wm 4 (ay 0 5).toNat (ay 1 5).toNat 0) A_ rs_ (pU 25) _ (Mo (aw 0)) (JY _ _) (Bw _) (show 1 <= 1 by decide) (show 0 <= 1000000 by decide) (show 0 <= 1000000 by decide) (show (60:Int).toNat <= 1000000 by decide) (zg _) (by decide) (au YS) (Sr.rowN (ar 1) TI) (Wg _ (ar 2)) (by decide) (λ i hi=>sj hi) (λ i hi=>ux Xl (ar 0) (by decide) (by decide) (t:=0+i) (by omega))) ?_;rintro _ ⟨r14,S15,Wl⟩ ⟨rfl,afZ,XR⟩;dsimp only at afZ XR;refine ae 16 [] λ _=>aaj (Hp:=[]) (Tp:=[]) [] [] (M9 (t:=25) XR (ar 0) (Bw _) (show 0 <= 1000000 by decide) (show 0 <= 1000000 by decide) (by rw[Fy];decide) (zg _) (by decide) (au YS) (by decide) (λ i hi=>sj hi) (λ i hi=>ux Xl (ar 1) (by decide) (by decide) (t:=0+i) (by omega)) (aaK _)) ?_;rintro _ q19 rfl;have Zj:((WS (mM b10) (wm 4 (ay 0 5).toNat (ay 1 5).toNat 0) (pU 25) 25).length:Int)=60:=vY (J:=(wm 4 (ay 0 5).toNat (ay 1 5).toNat 0)) (Bw b10) (jO _) (n:=25) (by decide) (λ i hi=>sj hi) (aaK _);refine ae 12 [] λ _=>aaj (Hp:=[]) (Tp:=[]) [] [] (Mp XR (ar 0) (n:=25) (by decide)) ?_;rintro _ ⟨A20,c21,Y6⟩ ⟨rfl,aku⟩;refine ae 11 [] λ _=>db 40 (aba (show ((25:Nat):Int) % ((10:Nat):Int)=5 by decide))<|ae 5 [] λ _=>db 45 (aba Zj)<|ae 1 [] λ _=>aai (QW XR (ar 1))<|ae 5 [] λ _=>?_;exact aaq [] [] [] ⟨rfl,rfl⟩
theorem SlIs.capL{α:Type}{e:Enc α}{T:TypeId}{l:List α}{A:Option Addr}{cap:Nat}{Hl:HL}(h:SlIs e T l A cap Hl):l.length <= cap:=by
 rcases h with ⟨_,rfl,rfl,_⟩|⟨_,_,_,_,_,_,h,_⟩
 ·exact aaK _
 ·exact h
theorem RwsT.rowL{rs:List Rw}{xss:List (List Inp)}{RT F:HL}(h:RwsT rs xss RT)(hs:∀x∈RT,x∈F){k:Nat}(hk:k<rs.length):RowL cL 40 F (rs.getD k gD.dflt).A (rs.getD k gD.dflt).n (xss.getD k []):=by
 obtain⟨b,o,N,full,c,e,hI,hi,hx,hc⟩:=(h F hs).get hk;rw[e];exact .rows b o N full (0,0) _ _ hI hi rfl hx
theorem FD(A0 AI:Option Addr)(n0 c0 nI cI:Nat)(xs xI:List Int)(i1 i3 i4:Int)(F:HL)(hE0:pS F)(YS:cM F)(VI:ArgD F A0 n0 xs)(Ta:n0 <= 9223372036854775807)(SC:ArgD F AI nI xI)(hn2:nI <= 9223372036854775807)(hi1:oV i1)(hi3:oV i3)(hi4:oV i4):Sp Tryz.prog 9 #[.slice A0 n0 c0,vI i1,.slice AI nI cI,vI i3,vI i4] [] F (λ u H'=>u=.bool true /\ H'=[]):=by
 refine aau Tryz.func9 rfl mn (A:=[]) (Ts:=[]) rfl λ w0=>?_;refine ae 8 [] λ _=>aaj (Hp:=[]) (Tp:=[]) [] [] (VI.up.use λ F_ h_=>Eu A0 n0 c0 xs _ h_ Ta) ?_;rintro _ ⟨S,TS⟩ ⟨rfl,hG⟩;dsimp only at hG;have hF:=OJ VI hG;have hpl:=hF.pl;have Wc:=hF.nb;have Sq:=hF.rn;have Ut:=hF.dn;have D_:=hF.sz;have UD:=fZ S S.nb;have hV:SetV S:=VI.ex.elim λ _ h_=>setV h_ hG;obtain⟨pl,aff⟩:∃pl:Nat,S.players=(pl:Int):=⟨S.players.toNat,by omega⟩;have hTR:∀t,RowOk S.players (si S xI t):=λ t=>SC.ex.elim λ _ h_=>CX h_ (by omega) _;refine ae 7 (ow 0 16) λ n1=>aaj (Hp:=[]) (Tp:=[]) [] [] (so i1 _ hi1 (au hE0)) ?_;rintro _ ⟨b2,T3⟩ ⟨rfl,Yj⟩;dsimp only at Yj;have Vp:(ay i1 5).toNat<5:=by have:=dg (n:=i1) hi1 5 (by decide);omega
 have Ud:(ay (i64.wrap (i1+1)) 5).toNat<5:=by have:=dg (n:=(i64.wrap (i1+1))) (JZ _) 5 (by decide);omega
 obtain⟨j1,ej1⟩:∃j,(ay i1 5).toNat=j:=⟨_,rfl⟩;obtain⟨j2,ej2⟩:∃j,(ay (i64.wrap (i1+1)) 5).toNat=j:=⟨_,rfl⟩;rw[ej1] at Vp;rw[ej2] at Ud;rw[ej1,ej2] at Yj;refine ae 8 (ow 0 16) λ _=>?_;obtain⟨cnt,af_,hcl⟩:∃cnt:Nat,ay i3 10=(cnt:Int) /\ cnt <= 9:=⟨(ay i3 10).toNat,by have:=dg (n:=i3) hi3 10 (by decide);omega,by have:=dg (n:=i3) hi3 10 (by decide);omega⟩;refine aaj (Hp:=[]) (Tp:=[]) [] [] (SC.up.use λ F_ h_=>BA S AI nI cI xI i3 cnt F_ h_ hn2 (by omega) af_ (by omega)) ?_;rintro _ ⟨⟨A5,c6,rs7⟩,E8,T9⟩ ⟨rfl,VS,XX,Z3⟩;dsimp only at VS XX Z3;have hgr:∀i,i<cnt -> RowOk S.players ((eJ S.players xI cnt).getD i []):=λ i hi=>SC.ex.elim λ _ h_=>Bu h_ (by omega) cnt i hi;have aiq:cnt <= c6:=by have h_:=VS.capL;omega
 have Zj:=vY (J:=(wm 4 j1 j2 0)) hV (jO S) (n:=cnt) (by omega) hgr (i:=cnt) (by omega);refine ae 8 (ow 0 16) λ _=>?_;obtain⟨ev1,he1,acw⟩:∃ev:Nat,(3:Int)=(ev:Int) /\ (1 <= ev /\ ev <= 60):=⟨3,rfl,by decide⟩;refine aaj (Hp:=[]) (Tp:=[]) [] [] (O5 S sJ (k9 (kv xs 3 % 3).toNat) b2 ev1 cnt c6 (wm 4 j1 j2 0) A5 rs7 (eJ S.players xI cnt) _ (hG.sin _ (aw 1) (ar 3)).cl (hG.maps.2 _ (ar 3)) hV (by omega) (by omega) (by omega) (by omega) hF.val acw (au YS) (VS.rowN (ar 0) XX) (Z3 _ (ar 1)) (by omega) hgr (λ i hi=>ux Yj (ar 2) Vp Ud (t:=0+i) (by omega)) he1) ?_;rintro _ ⟨r13,S14,SP⟩ ⟨rfl,af0,abX⟩;dsimp only at af0 abX;refine ae 14 [] λ _=>aal [] []<|ag [] [0,1,2,3,4] (ow 0 17) ?_;obtain⟨adB,acX,agk⟩:∃k:Nat,ay i4 S.players=(k:Int) /\ (k:Int)<S.players:=⟨(ay i4 S.players).toNat,by have h_:=dg (n:=i4) hi4 S.players (by omega);omega,by have h_:=dg (n:=i4) hi4 S.players (by omega);omega⟩;refine aac [] 5 (λ X_=>(yV acX (by omega) _))<|aae 6 (aaf [] (Hp:=[]) (Tp:=[]) [] [] (zf S sJ (k9 (kv xs 3 % 3).toNat) b2 pl adB 12 (wm 4 j1 j2 0) _ (hG.sin _ (aw 1) (ar 4)).cl (hG.maps.2 _ (ar 4)) (by omega) (by omega) (by omega) (by omega) hF.val aff (by omega) (by omega)) ?_);rintro _ ⟨p19,VA⟩ ⟨rfl,Zw⟩;dsimp only at Zw;have YP:PeerI S (wm 4 j1 j2 0) 12 (si S xI) (⟨⟨cV S S.nb,[],0⟩,0,[],[],0,[],[],0⟩:PS (List Inp)) [] 0 0:=zd S (wm 4 j1 j2 0) 12 (si S xI) 0;obtain⟨adI,Xo⟩:∃x,(⟨⟨cV S S.nb,[],0⟩,0,[],[],0,[],[],0⟩:PS (List Inp))=x:=⟨_,rfl⟩;rw[Xo] at Zw YP;have aju:([]:List (List Inp)).length=0:=rfl;have aep:adI.rows.length=0:=by rw[<- Xo];rfl
 have aeq:adI.rb=0:=by subst Xo;rfl
 refine ag [] [7,8,9,10,11] []<|aad<|ae 20 [] λ _=>aaj [] [0] (M6 (tt:=(cnt:Int)) Zw YP hTR hV (by omega) (by omega) (by omega) (by omega) (λ i hi=>ux Yj (ar 3) Vp Ud (t:=0+i) (by omega)) (au YS)) ?_;rintro _ ⟨⟨n22,e23,P24,aeG,c26,V27,m28⟩,XF⟩ ⟨rfl,abU,Yg,agh,adg⟩;dsimp only at abU Yg agh adg;have ahz:=Yg.vlen;have ah6:=Yg.lim;unfold Mn at adg;obtain rfl:e23=0:=by omega
 have aeT:V27.length=cnt:=by omega
 have ahM:P24.rows.length=0:=by omega
 refine ae 14 [] λ _=>aao (σ:=Nat × PS (List Inp) × List IvN × HL) (λ ⟨t_,P_,kv_,G_⟩=>⟨[(13,.slice A5 cnt c6),(14,vP r13 0),(15,vP p19 0),(18,vI 0),(19,vI (t_:Int))],[((n1+0),.lit (Setup.l S) 31 (0,0)),(S.bb,.rows 9 S.bR (je S.bods) 90 (0,0))],[G_,E8,SP,T9,T3,TS],t_ <= cnt /\ PeerR sJ (k9 (kv xs 3 % 3).toNat) b2 p19 pl adB 12 S (wm 4 j1 j2 0) P_ kv_ c26 0 none G_ /\ PeerI S (wm 4 j1 j2 0) 12 (si S xI) P_ V27 m28 (1+t_) /\ P_.rows.length=t_,cnt-t_⟩) (0,P24,aeG,XF) [0,1] [0,2,1,3,4,5] (⟨aaL _,abU,Yg.more (by omega),by omega⟩) ?_;rintro⟨t_,P_,kv_,G_⟩ ⟨ht_,Yh,Uy,hq_⟩ aez;refine ae 9 [] λ _=>aam ((t_:Int)<(cnt:Int)) 65 (λ h36=>?_) λ h36=>?_
 ·refine ae 6 [] λ _=>?_;obtain⟨ba_,oa_,fl_,rfl,rfl,ak_,afy,acv⟩:=(id VS).resolve_left (λ h_=>by have YV:=congrArg List.length h_.2.2.1;rw[XX,List.length_nil] at YV;omega);rw[XX] at afy acv;refine tc 1 (x:=(ba_,.rows 1 (oa_+c6) (aL gD fl_) 38 (0,0)))<|ai 7 [.ix t_,.row 0 (oa_+t_) 0] [(oa_*1+t_*1)=(oa_+t_)*1+0 /\ (oa_+t_)<(oa_+c6),(t_:Int)=((t_:Nat):Int) /\ t_<cnt] λ _=>?_;have Uf:=Bv acv (k:=t_) (by omega) (d:=gD.dflt);refine aK 73 (congrArg (λ v_=>(.slice v_.A v_.n v_.c:Value)) Uf)<|aaj [] [0] (O0 (cc:=(rs7.getD t_ gD.dflt).c) Yh Uy hTR hV (by omega) (by omega) (Z3.rowL (k:=t_) (ar 1) (by omega)) (by rw[hq_];exact sf (by omega)) (show (t_:Int)=_ by omega)) ?_;rintro _ T37 ⟨rfl,aeZ,agI⟩;have alj:(pT P_ (si S xI P_.rows.length)).rows.length=P_.rows.length+1:=by show (P_.rows++[_]).length=_;simp
  refine ai 12 [.gen,.nw] [bn ((t_:Int)+1)] λ _=>wD 0 ?_;refine aez (t_+1,(pT P_ (si S xI P_.rows.length)),(oB kv_ (P_.rows.length:Int)),T37) [0,1] [1,0,2,3,4,5] ?_
  try dsimp only
  exact⟨⟨by omega,aeZ,agI.more (by omega),by omega⟩,by omega⟩
 ·refine ae 11 [] λ _=>aaj [] [0] (M6 (tt:=(cnt:Int)) Yh Uy hTR hV (by omega) (by omega) (by omega) (by omega) (λ i hi=>ux Yj (ar 3) Vp Ud (t:=0+i) (by omega)) (au YS)) ?_;rintro _ ⟨⟨n40,e41,P42,ajZ,c44,V45,m46⟩,T47⟩ ⟨rfl,abT,V4,age,adf⟩;dsimp only at abT V4 age adf;have ahy:=V4.vlen;have ah5:=V4.lim;unfold Mn at adf;obtain rfl:e41=0:=by omega
  have aeS:V45.length=cnt:=by omega
  have YA:P42.rows.length=cnt:=by omega
  have abK:V45=P42.rows:=V4.fin (by omega) (by omega);have YT:=V4.cells abK YA;have ac4:=V4.rowsR YA;rw[ac4] at YT;refine ae 12 [] λ _=>aaj (Hp:=[]) (Tp:=[]) [] [] (M9 (t:=cnt) abX (ar 2) hV (by omega) (by omega) (by omega) hF.val acw (au YS) (by omega) hgr (λ i hi=>ux Yj (ar 4) Vp Ud (t:=0+i) (by omega)) (by omega)) ?_;rintro _ q52 rfl;refine ae 23 [] λ _=>aaj (Hp:=[]) (Tp:=[]) [] [] (Mi abT (ar 0) YT) ?_;rintro _ q53 rfl;refine ae 1 [] λ _=>aai (Lm true q53 q52 ((WS S (wm 4 j1 j2 0) (eJ S.players xI cnt) cnt).length) ((WS S (wm 4 j1 j2 0) (eJ S.players xI cnt) cnt).length) ((WS S (wm 4 j1 j2 0) (eJ S.players xI cnt) cnt).length) ((WS S (wm 4 j1 j2 0) (eJ S.players xI cnt) cnt).length) ((WS S (wm 4 j1 j2 0) (eJ S.players xI cnt) cnt).length) ((WS S (wm 4 j1 j2 0) (eJ S.players xI cnt) cnt).length) (WS S (wm 4 j1 j2 0) (eJ S.players xI cnt) cnt) (WS S (wm 4 j1 j2 0) (eJ S.players xI cnt) cnt) _ (aw 0) (aw 1) (aaK _) (aaK _) (by omega) (aba ⟨rfl,λ t ht=>rfl⟩))<|ae 2 [] λ _=>aai (zl _ (au hE0) (au YS))<|ae 4 [] λ _=>?_;exact aaq [] [] [] ⟨rfl,rfl⟩
open Go.ChangeShapes Go.WideShapes Go.ChangeAt
theorem Ka:ownKnob Tryz.prog.godebug=none:=by kernel_rfl
theorem Kb:laidOutB Tryz.prog=true:=by kernel_rfl
theorem ml{n:Int}(h:(Lit.int .i64 n).wf=true):-9223372036854775808 <= n /\ n <= 9223372036854775807:=bounds_i64 h
section
variable {H:Type} {enc:TypeId × Value -> H} {P:Program} {W W':World}
theorem mN(hl:laidOutB P=true)(hb:Below W.heap.size W W'):∀ {ts:List TypeId} {vs:List Value} {ds:List (DataW H)} {ps:List MemPlace},(∀t∈ts,P.readableRec t=true /\ t<P.types.size) ->
  DataW.TrodAll enc P W 0 (λ _=>true) true ts vs ds ps -> (∀x∈ps,x.block<W.heap.size) -> DataW.TrodAll enc P W' 0 (λ b=>decide (b<W.heap.size)) true ts vs ds ps
 | [],_,_,_,_,h,_=>by
  obtain⟨rfl,rfl,rfl⟩:=trodAll_nil h;exact trodAll_mk0
 | t::ts,_,_,_,ht,h,iF=>by
  obtain⟨v,vs1,d,ds1,a,b,rfl,rfl,rfl,h1,h2⟩:=trodAll_cons h;have h3:=ht t (by simp);exact trodAll_cons_mk (Below.trod hl h3.1 h3.2 h1 hb (λ x hx=>iF x (by simp[hx]))) (mN hl hb (λ t h=>ht t (aaE _ h)) h2 (λ x hx=>iF x (by simp[hx])))
theorem Kd{f:Func}{s:ChangeSpec}{apart fresh handsOn:Bool}{args:Array Value}{v:Value}{ds:List (DataW H)}{before:List MemPlace}(hl:laidOutB P=true)
  (hts:∀t∈f.params.toList,P.readableRec t=true /\ t<P.types.size)
  (hW:DataW.Whole enc P f.params.toList s.vars apart W args.toList ds [] before) (hs:s.vars=[])
  (hA:DataW.TrodAll enc P W 0 (λ _=>true) true f.params.toList args.toList ds before)
  (Un:∀ (b:Nat) (sp:Nat -> Bool) (hd:Bool),DataW.TrodAll enc P W' b sp hd f.resultTypes.toList (v.resultList f.resultTypes.size) (s.fn H (ds++[])).results [])
  (VK:(s.fn H (ds++[])).args=ds) (abJ:∀sp,DataW.TrodVars enc P W' sp s.vars (s.fn H (ds++[])).vars []) (hb:Below W.heap.size W W') :
  s.post enc P f apart fresh handsOn false W args v W':=by
 refine⟨ds,[],before,[],before,[],hW,Un _ _ _,?_,abJ _,hb.frame _,λ h=>by cases h⟩;rw[VK];exact mN hl hb hts hA (λ x hx=>hW.lt x hx)
end
def sr:Obj -> Blk
 | .cells cs ty fz=>.rows 1 cs.size (λ i _=>cs.getD i default) ty fz
 | o=>.obj o
theorem mm(o:Obj):(sr o).den=o:=by
 cases o with
 | cells cs ty fz =>
  show Obj.cells ⟨bg 1 (λ i _=>cs.getD i default) cs.size⟩ ty fz=_;congr 1;have e:bg 1 (λ i _=>cs.getD i default) cs.size=cs.toList:=by
   refine iK (by simp) ?_;intro i k hi hk;obtain rfl:k=0:=by omega
   simp[Array.getD,hi]
  rw[e]
 | _=>rfl
def lK(w:World):HL:=List.ofFn (λ k:Fin w.heap.size=>(k.1,sr w.heap[k.1]))
theorem su{w:World}{k:Nat}{o:Obj}(h:w.heap[k]?=some o):(k,sr o)∈lK w:=by
 obtain⟨hk,he⟩:=Array.getElem?_eq_some_iff.1 h;exact List.mem_ofFn.2 ⟨⟨k,hk⟩,by simp[he]⟩
theorem BB(w:World):Rel (lK w) w:=by
 refine⟨λ x hx=>?_,?_⟩
 ·obtain⟨k,rfl⟩:=List.mem_ofFn.1 hx;simp[mm]
 ·unfold lK;rw[List.map_ofFn];have e:List.ofFn ((λ x:Nat × Blk=>x.1) ∘ λ k:Fin w.heap.size=>(k.1,sr w.heap[k.1]))=List.range w.heap.size:=by
   apply List.ext_getElem
   ·simp
   ·intro i h1 h2;simp
  rw[e];exact List.nodup_range
theorem FF{P:Program}{f:FuncId}{args:Array Value}{v:Value}(w:World)(h:Sp P f args [] (lK w) (λ u H'=>u=v /\ H'=[])):Calls P f args w λ e w'=>e=.returned v /\ Below w.heap.size w w':=by
 refine(h w (BB w)).mono ?_;rintro e w' ⟨u,H',rfl,⟨rfl,rfl⟩,C_,hB⟩;refine⟨rfl,hB.os,hB.tape,hB.output,hB.size,λ k hk=>?_⟩;have:=C_.holds (k,sr w.heap[k]) (by rw[List.nil_append];exact su (by simp[hk]));rw[this];simp[mm,hk]
theorem zm{H:Type}{enc:TypeId × Value -> H}{w:World}{r:Reach}{b0:Nat}{v:Value}{d:DataW H}{ps:List MemPlace}(IF:Value.okWide Tryz.prog w r b0 22 v)(hd:DataW.Trod enc Tryz.prog w 0 (λ _=>true) true 22 v d ps) :
  ∃ (A:Option Addr) (n cap:Nat) (xs:List Int),v=.slice A n cap /\ n <= 9223372036854775807 /\ ArgL (lK w) A n xs /\ n <= cap:=by
 obtain⟨a0,len,cap,rfl⟩:=okWide_slice Tryz.underlying22 IF;obtain⟨fuel,hf⟩:=hd;rcases open_ints Tryz.underlying22 Tryz.underlying3 (by kernel_rfl) hf with ⟨hcs,hx⟩|⟨a,ajY,f_,zs,hcs,_,hl,hm,hz,hx,K_,hwz⟩
 ·simp[Value.cells] at hcs;obtain⟨rfl,rfl,rfl⟩:=hcs;exact⟨none,0,0,[],rfl,by omega,.zero _,aaK _⟩
 ·simp[Value.cells] at hcs;obtain⟨rfl,rfl,rfl⟩:=hcs;unfold maxLen at hm;simp at hz;rcases Nat.eq_zero_or_pos len with h0|Zz
  ·subst h0;exact⟨some a,0,_,[],rfl,by omega,.zero _,aaL _⟩
  ·have hlz:len <= zs.length:=by omega
   obtain⟨b,off,spot⟩:=a;have c0:=K_ 0 (by omega);have VE:spot=none:=by
    cases spot with
    | none=>rfl
    | some s=>simp[Addr.add,World.cell?] at c0;split at c0 <;> simp at c0
   subst VE;have hc:∀i,i<zs.length -> w.cell? ⟨b,off+i,none⟩=some (.int .i64 (zs.getD i 0)):=λ i hi=>by
    have:=K_ i hi;unfold Addr.add at this
    by_cases h:i=0
    ·subst h;simpa using this
    ·rw[if_neg h] at this;exact this
   have h0:=hc 0 (by omega);unfold World.cell? at h0;split at h0
   case h_2=>cases h0
   rename_i cs ty fz hb;refine⟨some ⟨b,off,none⟩,len,cap,zs.take len,rfl,by omega,?_,hl⟩;have hlen:(zs.take len).length=len:=by rw[aaQ];omega
   have hcs:∀k,k<len -> cs[off+k]?=some (vI ((zs.take len).getD k 0)):=λ k hk=>by
    have h1:=hc k (by omega);unfold World.cell? at h1;rw[show w.heap[(⟨b,off+k,none⟩:Addr).block]?=some (.cells cs ty fz) from hb] at h1;have h2:cs[off+k]?=some (.int .i64 (zs.getD k 0)):=by simpa using h1
    rw[h2];simp[aaI,aa7,hk]
   have afu:=su hb;have hle:off+len <= cs.size:=by
    have h1:=hcs (len-1) (by omega);have h2:=(Array.getElem?_eq_some_iff.1 h1).1;omega
   have:=ArgL.cells (F:=lK w) b off cs.size (λ i _=>cs.getD i default) ty fz (zs.take len) afu (by rw[hlen];exact hle) (λ k hk=>by
    rw[hlen] at hk;have h1:=hcs k hk;simp only[Array.getD_eq_getD_getElem?];rw[h1];rfl) (λ k hk=>by
    rw[hlen] at hk;have:(zs.take len).getD k 0∈zs:=by
     rw[aaI,aaT (by omega)];exact List.mem_of_mem_take (List.getElem_mem _)
    exact ml (hwz _ this))
   rw[hlen] at this;exact this
theorem sU{H:Type}{enc:TypeId × Value -> H}{P:Program}{w:World}{base:Nat}{sp:Nat -> Bool}{held:Bool}{fuel:Nat}{t e:TypeId}{n m:Nat}{k:IntKind}{fs:Array Field}{cs:List Value}{zs:List (List Int)}{p:List MemPlace}
  (ht:P.underlying t=some (.array n e)) (he:P.underlying e=some (.struct fs)) (hce:P.cellsOf e=m) (hct:P.cellsOf t=n*m) (hm:0<m) (Sx:fs.toList.length=m)
  (hf:∀ (j:Nat) f,fs.toList[j]?=some f -> P.underlying f.type=some (.int k) /\ P.cellsOf f.type=1 /\ f.offset=j) (hz:∀z∈zs,z.length=m)
  (h:DataW.trod enc P w base sp held fuel t cs=some (.agg (zs.map λ z=>.agg (z.map λ x=>.lit (.int k x))),p)) :
  cs.length=n*m /\ zs.length=n /\ ∀i j,i<n -> j<m -> cs[i*m+j]?=some (.int k ((zs.getD i []).getD j 0)):=by
 cases fuel with
 | zero=>simp[DataW.trod] at h
 | succ fuel =>
  simp only[DataW.trod,ht,hce,hct] at h;split at h
  case isFalse=>cases h
  rename_i hl;obtain⟨xs,hmm,hx⟩:=Option.map_eq_some_iff.1 h;have Zg:xs.map (·.1)=zs.map λ z=>(DataW.agg (z.map λ x=>.lit (.int k x)):DataW H):=by
   have:=congrArg Prod.fst hx;simpa using this
  have hxl:xs.length=n:=by simpa using Lib.mapM_length hmm
  have Vd:zs.length=n:=by
   have:=congrArg List.length Zg;simp at this;omega
  refine⟨hl,Vd,λ i j hi hj=>?_⟩;obtain⟨b,hb,hfb⟩:=Lib.mapM_at hmm i i (by simp[hi]);have hbz:b.1=.agg ((zs.getD i []).map λ x=>.lit (.int k x)):=by
   have h2:(xs.map (·.1))[i]?=some b.1:=by simp[hb]
   rw[Zg,List.getElem?_map,aaT (by omega)] at h2;simp only[Option.map_some,Option.some.injEq] at h2;rw[<- h2,aaI,aaT (by omega)];rfl
  have hzi:(zs.getD i []).length=m:=by
   rw[aaI,aaT (by omega)];exact hz _ (List.getElem_mem _)
  cases fuel with
  | zero=>simp[DataW.trod] at hfb
  | succ fuel =>
   have X0:=hfb;simp only[DataW.trod,he,hce] at X0;split at X0
   case isFalse=>cases X0
   rename_i hcl;obtain⟨ys,hym,hy⟩:=Option.map_eq_some_iff.1 X0;have hys:ys.map (·.1)=(zs.getD i []).map λ x=>(DataW.lit (.int k x):DataW H):=by
    have:=congrArg Prod.fst hy;rw[hbz] at this;simpa using this
   have hfj:fs.toList[j]?=some (fs.toList[j]'(by omega)):=aaT (by omega);obtain⟨c,hc,hfc⟩:=Lib.mapM_at hym j _ hfj;obtain⟨f1,f2,f3⟩:=hf j _ hfj;rw[f2,f3] at hfc;obtain⟨x,hcx,hcd,_⟩:=DataW.trod_int f1 hfc;have h1:(((cs.drop (i*m)).take m).drop j).take 1=[.int k x]:=hcx;have h2:cs[i*m+j]?=some (.int k x):=by
    have:=congrArg (·[0]?) h1;simpa [aa7,aa6,hj] using this
   have h3:(ys.map (·.1))[j]?=some (DataW.lit (.int k x):DataW H):=by simp[hc,hcd]
   rw[hys,List.getElem?_map,aaT (by omega)] at h3;simp only[Option.map_some,Option.some.injEq,DataW.lit.injEq,Lit.int.injEq,true_and] at h3;have h4:∀l:List Int,(hl:j<l.length) -> l[j]=l.getD j 0:=λ l hl=>by simp[aaI,hl]
   rw[h2,<- h3,h4 _ (by omega)]
theorem kL{H:Type}{enc:TypeId × Value -> H}{a:Assume}{C:Checked}{os:Os}{f:FuncId}{fn:Func}{s:ChangeSpec}{conds:List PathCond}{apart fresh handsOn again:Bool}{X:World -> Array Value -> Prop}
  (hX:∀ (w w':World) (args:Array Value),w.heap=w'.heap -> X w args -> X w' args)
  (own:ownKnob C.prog.godebug=none) (started:os.Started) (Y_:C.prog.inits.idxOf? f=none) (ZM:C.prog.funcs[f]?=some fn)
  (witness:∃ (w:World) (tape:Tape) (i:Input),w.os=os /\ (w.forCall tape i).Shaped C.prog /\ i.vars=[] /\ Input.okWide C.prog (w.forCall tape i) .any w.heap.size f i /\
   ((s.pre enc C.prog fn conds apart (w.forCall tape i).memory i.args /\ X (w.forCall tape i).memory i.args) /\ sizedMet enc C.prog fn (OpenSpec.ofChange s) apart (w.forCall tape i).memory i.args) /\ a.holds C.prog (lone (Frame.enter C.prog f i.args .normal) [] (w.forCall tape i)))
  (Xq:∀ (W:World) (base:Nat) (args:Array Value) (ds gs:List (DataW H)) (before:List MemPlace),W.ShapedOpen C.prog ->
   (∀ (j:Nat) t v,fn.params[j]?=some t -> args[j]?=some v -> Value.okWide C.prog W .any base t v) ->
   DataW.Whole enc C.prog fn.params.toList s.vars apart W args.toList ds gs before -> X W args ->
   Calls C.prog f args W λ e W'=>∃v,e=.returned v /\ s.post enc C.prog fn apart fresh handsOn again W args v W') :
  ReturnsInHanded a C os f .any (λ w args=>(s.pre enc C.prog fn conds apart w args /\ X w args) /\ sizedMet enc C.prog fn (OpenSpec.ofChange s) apart w args) (s.post enc C.prog fn apart fresh handsOn again):=by
 refine returnsInHanded_of_calls own started Y_ witness ?_;intro w tape i _ V9 _ g_ So afN;obtain⟨_,_,_,fn',afV,_,_,_,_,IF⟩:=g_;have e:fn'=fn:=Option.some.inj (afV.symm.trans ZM);subst e;obtain⟨⟨⟨ds,gs,before,hw,hc⟩,hx⟩,hz⟩:=So;have Zk:=DataW.Whole.of_heap (w':=w.forCall tape i) (by rfl) hw;refine(Xq (w.forCall tape i) w.heap.size i.args ds gs before V9 IF Zk (hX _ _ _ (by rfl) hx)).mono λ e W' ⟨v,he,hp⟩=>?_;subst he;exact ChangeSpec.post_blind hp
def ceZ:List (List Int):=[[0,0],[0,1],[0,1],[1,0],[1,1],[2,0],[0,1],[0,1],[0,1],[2,1],[2,1],[2,1],[2,1],[1,1],[2,1],[2,1],[2,1],[1,1],[0,0],[1,0],[2,0],[0,0]]
def Da:Nat -> Nat -> Value:=λ i j=>.int .i64 ((ceZ.getD i []).getD j 0)
theorem Ke:(Blk.rows 2 22 Da 270 (0,0)).den=(Blk.lit vO 270 (0,0)).den:=by kernel_rfl
def efZ:List (List Int):=nT.map λ z=>[z.1,z.2.1,z.2.2]
theorem zn(g:Nat)(t:TypeId)(hg:g<Tryz.prog.globals.size)(h0:(((begin Tryz.prog (λ _ _=>0) default).world.heap[g]?).bind Obj.row?).map (·.2)=some t){W:World}(hs:W.ShapedOpen Tryz.prog):∃cs,W.heap[g]?=some (.cells cs t (0,0)):=by
 cases h:((begin Tryz.prog (λ _ _=>0) default).world.heap[g]?).bind Obj.row? with
 | none=>rw[h] at h0;cases h0
 | some x =>
  obtain⟨z,t'⟩:=x;rw[h] at h0;simp only[Option.map_some,Option.some.injEq] at h0;subst h0;obtain⟨cs,h1,_⟩:=hs.1 g z t' hg h;exact⟨cs,h1⟩
def Kf(P:Program)(e:TypeId)(m:Nat):Bool :=
 match P.underlying e with
 | some (.struct fs)=>decide (fs.toList.length=m) && (List.range m).all λ j =>
  match fs.toList[j]? with
  | some f=>(match P.underlying f.type with|some (.int .i64)=>true|_=>false) && decide (P.cellsOf f.type=1) && decide (f.offset=j)
  | none=>false
 | _=>false
theorem FG{P:Program}{e:TypeId}{m:Nat}(h:Kf P e m=true):∃fs:Array Field,P.underlying e=some (.struct fs) /\ fs.toList.length=m /\
  ∀ (j:Nat) f,fs.toList[j]?=some f -> P.underlying f.type=some (.int .i64) /\ P.cellsOf f.type=1 /\ f.offset=j:=by
 unfold Kf at h;split at h
 case h_2=>cases h
 rename_i fs hfs;rw[aa0] at h;have hm:fs.toList.length=m:=aa5 h.1;refine⟨fs,hfs,hm,λ j f hj=>?_⟩;have hjm:j<m:=by rw[<- hm];exact(List.getElem?_eq_some_iff.1 hj).1
 have h2:=List.all_eq_true.1 h.2 j (List.mem_range.2 hjm);rw[hj] at h2;simp only[aa0,decide_eq_true_eq] at h2;refine⟨?_,h2.1.2,h2.2⟩;have h3:=h2.1.1;split at h3
 ·assumption
 ·cases h3
theorem Db{P:Program}{W:World}{name:String}{g n m:Nat}{t e:TypeId}{zs:List (List Int)}{rest:List (String × DataW Unit)}{ps:List MemPlace}{row:Nat -> Nat -> Value}{cs0:Array Value}
  (hb:W.heap[g]?=some (.cells cs0 t (0,0)))
  (hg:P.globalNamed name=some g) (hty:(P.globals[g]?).map (·.type)=some t) (ht:P.underlying t=some (.array n e)) (hE:Kf P e m=true) (hce:P.cellsOf e=m) (hct:P.cellsOf t=n*m) (hm:0<m) (hz:∀z∈zs,z.length=m)
  (q_:∀i j,i<n -> j<m -> row i j=.int .i64 ((zs.getD i []).getD j 0))
  (h:DataW.LaidVars P W ((name,.agg (zs.map λ z=>.agg (z.map λ x=>.lit (.int .i64 x))))::rest) ps):W.heap[g]?=some (Blk.rows m n row t (0,0)).den /\ ∃q,DataW.LaidVars P W rest q:=by
 obtain⟨fs,he,Sx,hf⟩:=FG hE;obtain⟨g',t',cs,fuel,p,q,hg',ht',aeU,hd,hr,_⟩:=h;obtain rfl:=Option.some.inj (hg.symm.trans hg');obtain rfl:=Option.some.inj (hty.symm.trans ht');have hv:W.var? P name=some cs0:=by
  unfold World.var?;rw[hg];simp only[Option.bind_some,hb]
 obtain rfl:=Option.some.inj (hv.symm.trans aeU);obtain⟨h1,h2,h3⟩:=sU ht he hce hct hm Sx hf hz hd;refine⟨?_,q,hr⟩;rw[hb];show some (Obj.cells cs0 t (0,0))=some (Obj.cells ⟨bg m row n⟩ t (0,0));congr 2;obtain⟨l⟩:=cs0;congr 1
 symm
 exact iK (w:=m) h1 λ i j hi hj=>by rw[q_ i j hi hj];exact h3 i j hi hj
theorem Mq {W:World} (hs:W.ShapedOpen Tryz.prog) (hL:laidMetH Tryz.prog [("arenanet/compile.effects",Rows.laid_arenanet_compile_effects),("arenanet/vm.effects",Rows.laid_arenanet_vm_effects)] W):W.heap[0]?=some (Blk.lit vO 270 (0,0)).den /\ W.heap[1]?=some (Blk.rows 3 22 mU 332 (0,0)).den:=by
 rw[MakeChecks.laidMetH_plain _ _ _ (by kernel_rfl)] at hL;obtain⟨ps,hv,_,_⟩:=hL;obtain⟨cs0,hb0⟩:=zn 0 270 (aa5 (by kernel_rfl)) (by kernel_rfl) hs;obtain⟨cs1,V0⟩:=zn 1 332 (aa5 (by kernel_rfl)) (by kernel_rfl) hs;have hv0:DataW.LaidVars Tryz.prog W (("arenanet/compile.effects",.agg (ceZ.map λ z=>.agg (z.map λ x=>.lit (.int .i64 x)))) :: [("arenanet/vm.effects",.agg (efZ.map λ z=>.agg (z.map λ x=>.lit (.int .i64 x))))]) ps:=hv;obtain⟨h0,q,hq⟩:=Db (n:=22) (m:=2) (e:=269) (row:=Da) hb0 (by kernel_rfl) (by kernel_rfl) (by kernel_rfl) (by kernel_rfl) (by kernel_rfl) (by kernel_rfl) (by decide) (by decide) (λ i j hi hj=>rfl) hv0;obtain⟨h1,_⟩:=Db (n:=22) (m:=3) (e:=331) (row:=mU) V0 (by kernel_rfl) (by kernel_rfl) (by kernel_rfl) (by kernel_rfl) (by kernel_rfl) (by kernel_rfl) (by decide) (by decide) (λ i j hi hj=>by
  have key:∀i:Fin 22,∀j:Fin 3,(if j.1=0 then (nT.getD i.1 (0,0,0)).1 else if j.1=1 then (nT.getD i.1 (0,0,0)).2.1 else (nT.getD i.1 (0,0,0)).2.2)=(efZ.getD i.1 []).getD j.1 0:=by decide
  have:=key ⟨i,hi⟩ ⟨j,hj⟩;rcases j with _|_|_|j
  ·exact congrArg (Value.int .i64) this
  ·exact congrArg (Value.int .i64) this
  ·exact congrArg (Value.int .i64) this
  ·omega) hq
 exact⟨h0.trans (congrArg some Ke),h1⟩
def sw(W:World):HL:=List.ofFn (λ k:Fin W.heap.size=>(k.1,if k.1=0 then Blk.lit vO 270 (0,0) else if k.1=1 then Blk.rows 3 22 mU 332 (0,0) else sr W.heap[k.1]))
theorem BC{W:World}(h0:W.heap[0]?=some (Blk.lit vO 270 (0,0)).den)(h1:W.heap[1]?=some (Blk.rows 3 22 mU 332 (0,0)).den):eE (lK W)=eE (sw W):=by
 unfold eE lK sw;rw[List.map_ofFn,List.map_ofFn];congr 1;funext k;show (k.1,(sr W.heap[k.1]).den)=(k.1,Blk.den (if k.1=0 then _ else if k.1=1 then _ else _));rw[mm];congr 1
 by_cases e0:k.1=0
 ·rw[if_pos e0];have h2:W.heap[k.1]?=some (Blk.lit vO 270 (0,0)).den:=by rw[show W.heap[k.1]?=W.heap[0]? by rw[e0]];exact h0
  rw[Array.getElem?_eq_getElem k.2] at h2;exact Option.some.inj h2
 ·rw[if_neg e0]
  by_cases e1:k.1=1
  ·rw[if_pos e1];have h2:W.heap[k.1]?=some (Blk.rows 3 22 mU 332 (0,0)).den:=by rw[show W.heap[k.1]?=W.heap[1]? by rw[e1]];exact h1
   rw[Array.getElem?_eq_getElem k.2] at h2;exact Option.some.inj h2
  ·rw[if_neg e1,mm]
theorem Kg{W:World}(h0:W.heap[0]?=some (Blk.lit vO 270 (0,0)).den):pS (sw W) :=
 List.mem_ofFn.2 ⟨⟨0,(Array.getElem?_eq_some_iff.1 h0).1⟩,rfl⟩
theorem Kh{W:World}(h1:W.heap[1]?=some (Blk.rows 3 22 mU 332 (0,0)).den):cM (sw W) :=
 List.mem_ofFn.2 ⟨⟨1,(Array.getElem?_eq_some_iff.1 h1).1⟩,rfl⟩
end Go.Proofs.YtdppjkjbghbnjaaGreatDoor
