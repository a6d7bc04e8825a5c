import Derived.Test.YtgdcbiiopbpgaaaGreatDoorY16
import Derived.Test.YtgdcbiiopbpgaaaGreatDoorY17
set_option maxHeartbeats 4000000
set_option maxRecDepth 100000
set_option linter.unusedSimpArgs false
set_option linter.unusedVariables false
namespace Go.Proofs.YtgdcbiiopbpgaaaGreatDoor
open IntKind
open Go.RowKit
section
variable {α:Type} {e:Enc α} {T:TypeId} {F:HL} {A:Option Addr} {n cap:Nat} {xs:List α}
theorem RowL.drop(h:RowL e T F A n xs)(hc:n <= cap){k:Nat}(hk:k <= n):RowL e T F (jf A k e.w cap) (n-k) (xs.drop k):=by
 cases h with
 | zero =>
  obtain rfl:k=0:=by omega
  exact .zero _
 | rows q o N full fz n xs hq ho hn hx =>
  by_cases hc2:cap=k
  ·have e1:n-k=0:=by omega
   have e2:xs.drop k=[]:=List.eq_nil_of_length_eq_zero (by rw[List.length_drop];omega)
   rw[e1,e2]
   exact .zero _
  ·have e1:jf (some ⟨q,o*e.w,none⟩) k e.w cap=some ⟨q,(o+k)*e.w,none⟩:=by
    unfold jf
    rw[if_neg hc2,Option.map_some,nL rfl]
    simp[CB,Nat.add_mul]
   rw[e1]
   refine .rows q (o+k) N full fz _ _ hq (by omega) (by rw[List.length_drop,hn]) (λ i hi=>?_)
   have h4:=hx (k+i) (by omega)
   rw[List.getD_eq_getElem?_getD (l:=xs.drop k),List.getElem?_drop,<- List.getD_eq_getElem?_getD,<- h4,Nat.add_assoc]
end
theorem NL{x:Int}(h:0 <= x /\ x<128):u8.wrap ((BitVec.ofInt 8 x &&& BitVec.ofInt 8 127).toNat:Int)=x:=by
 obtain⟨k,rfl⟩:=Int.eq_ofNat_of_zero_le h.1
 have hk:k<128:=by omega
 have e:(BitVec.ofInt 8 (k:Int) &&& BitVec.ofInt 8 127).toNat=k:=by
  rw[BitVec.toNat_and,show (BitVec.ofInt 8 127).toNat=2 ^ 7-1 from rfl,Nat.and_two_pow_sub_one_eq_mod,BitVec.toNat_ofInt]
  omega
 rw[e,IntKind.wrap_u8]
 omega
theorem uD{w:Nat}{g g':Nat -> Nat -> Value}:∀ {n:Nat},(∀i k,i<n -> k<w -> g i k=g' i k) -> bm w g n=bm w g' n
 | 0,_=>rfl
 | n+1,h=>by
  rw[bm,bm,uD λ i k hi hk=>h i k (by omega) hk]
  congr 1
  exact List.map_congr_left λ k hk=>h n k (by omega) (List.mem_range.1 hk)
theorem yF{w n:Nat}{g g':Nat -> Nat -> Value}{ty:TypeId}{fz:Nat × Nat}(h:∀i k,i<n -> k<w -> g i k=g' i k):(Blk.rows w n g ty fz).den=(Blk.rows w n g' ty fz).den:=by
 simp only[Blk.den,uD h]
section
variable {r:Option Nat} {P:Program} {N:Nat} {D:List Deferred} {F:HL} {w0:World} {R:HL} {s:Cfg} {Q:Exit -> Act -> World -> Prop}
theorem L9(i:Nat)(a b:Blk)(e:a.den=b.den)(hk:RN r P N D F w0 R (Oe i b s) Q)(h:Og i s=some a.den:=by kernel_rfl):RN r P N D F w0 R s Q:=RN.dn i b hk (h.trans (congrArg some e))
end
theorem IV(x:Inp)(F:HL):Sp Tryz.prog 78 #[.agg #[vI x.dx,vI x.dy,vI x.act]] [] F (λ u H'=>u=.int .u8 (sm x) /\ H'=[]):=by
 refine Sp.run Tryz.func78 rfl mn (A:=[]) (Ts:=[]) rfl λ w0=>?_
 refine ae 24 [.own 0,.own 0,.own 0] λ n1=>?_
 exact RN.ret [] [] [] ⟨rfl,rfl⟩
theorem IW(A:Option Addr)(n c:Nat)(xs:List Inp)(F:HL)(hl:RowL eE 119 F A n xs)(hn:n <= 1000000):Sp Tryz.prog 47 #[.slice A n c] (ap [] []) F (λ u H'=>∃q:Nat,H'=ap [(q,.rows 1 n (aJ gS (lM xs)) 5 (0,0))] [] /\ u=vS q 0 n n):=by
 have UA:=hl.len
 refine Sp.run Tryz.func47 rfl mn (A:=[]) (Ts:=[]) rfl λ w0=>?_
 refine ai 22 [.mk n n] [(n:Int)=((n:Nat):Int) /\ (n:Int)=((n:Nat):Int) /\ n <= n /\ 1*n <= 140737488355328 /\ 1=1 /\ n <= 9223372036854775807] λ n1=>cj 0 (congrArg (λ v_=>(.rows 1 n v_ 5 (0,0):Blk)) (show (il [.int .u8 0])=(aJ gS (jc xs 0)) from (Lb _)))<|RN.loop (σ:=Nat) (λ k_=>⟨[(3,vS (n1+0) 0 n n),(9,.slice A n c),(10,vI (n:Int)),(11,vI (k_:Int))],[((n1+0),.rows 1 n (aJ gS (jc xs k_)) 5 (0,0))],[],k_ <= n,n-k_⟩) 0 [0] [] (Nat.zero_le _) ?_
 rintro k_ TT Ri
 refine ae 6 [] λ _=>RN.em ((k_:Int)<(n:Int)) 12 (λ h4=>?_) λ h4=>?_
 ·refine ae 8 [] λ _=>?_
  obtain⟨qx5,AS,TH,fx5,Za,R_,TN,Yk,TU⟩:=hl.at (k:=k_) (by omega)
  refine aB 9 (congrArg (λ v_=>(.slice v_ n c:Value)) R_)<|RN.ro (λ _=>(mc TN mn))<|ai 2 [.ix k_,.rorow 0 (AS+k_) 0,.rorow 0 (AS+k_) 1,.rorow 0 (AS+k_) 2] [((AS*3+k_*3)+2)=(AS+k_)*3+2 /\ (AS+k_)<TH,((AS*3+k_*3)+1)=(AS+k_)*3+1 /\ (AS+k_)<TH,(AS*3+k_*3)=(AS+k_)*3+0 /\ (AS+k_)<TH,(k_:Int)=((k_:Nat):Int) /\ k_<n] λ _=>aB 15 (congrArg (λ v_=>(.agg #[vI v_.dx,vI v_.dy,vI v_.act]:Value)) TU)<|ae 9 (ow 0 6) λ n6=>RN.cp (IV (xs.getD k_ dI) _)<|ai 9 [.ix k_,.row 1 k_ 0,.nw] [aU ((k_:Int)+1),(0+k_*1)=k_*1+0 /\ k_<n,(k_:Int)=((k_:Nat):Int) /\ k_<n] λ _=>aB 9 (congrArg (λ v_=>(.slice v_ n c:Value)) R_.symm)<|cj 1 (congrArg (λ v_=>(.rows 1 n v_ 5 (0,0):Blk)) (show (db (aJ gS (jc xs k_)) k_ 0 (.int .u8 (sm (xs.getD k_ dI))))=(aJ gS (jc xs (k_+1))) from (by rw[L7 (by rw[Ek (by omega)];omega),Em (by omega)]))) ?_
  refine Ri (k_+1) [1] [] ?_
  try dsimp only
  exact⟨by omega,by omega⟩
 ·refine ae 12 [] λ _=>RN.ret [] [0] [] (v:=vS (n1+0) 0 n n) (H':=(ap [((n1+0),.rows 1 n (aJ gS (jc xs k_)) 5 (0,0))] [])) ?_
  obtain rfl:k_=n:=by omega
  exact⟨(n1+0),by rw[<- El,UA],rfl⟩
theorem yG(A:Option Addr)(n c m:Nat)(l:List Int)(T0 F:HL)(hs:SlIs gS 5 l A c T0)(hn:n=l.length)(hm:m<128)(hb:n <= 1000000):Sp Tryz.prog 46 #[.slice A n c,vI (m:Int)] (ap [] [T0]) F (λ u H'=>∃x:Option Addr × Nat × HL,H'=ap [] [x.2.2] /\ (u=.slice x.1 (n+1) x.2.1 /\ SlIs gS 5 (l++[u8.wrap (m:Int)]) x.1 x.2.1 x.2.2)):=by
 refine Sp.run Tryz.func46 rfl mn (A:=[]) (Ts:=[T0]) rfl λ w0=>?_
 refine ae 7 [] λ _=>RN.rounds 1<|ae 7 [] λ _=>cH 6 (decide_eq_false (show ¬ (m:Int) >= 128 by omega))<|ae 12 [] λ n1=>fR Cr l [u8.wrap (m:Int)] 0 0 hn hs (by rw[List.length_singleton];omega) ?_
 rintro A2 c3 T4 ⟨Sd,hz6⟩
 refine ae 3 [] λ _=>RN.ret [] [] [0] (v:=.slice A2 (n+1) c3) (H':=(ap [] [T4])) ?_
 exact⟨(A2,c3,T4),rfl,rfl,Sd⟩
theorem sB{W:Nat -> List Int}{ev m k:Nat}(h:k<m):(av W ev m).getD k 0=ij (W (k*ev)):=by simp[av,h]
theorem yH(S3:Setup)(bp ev S0 rp n rc cc:Nat)(rA cA:Option Addr)(rl:List Rw)(cl:List Ck)(xss:List (List Inp))(W:Nat -> List Int)(F:HL)(RP:(rp,.lit (Setup.l S3++[vP bp 0,vI (ev:Int),vP S0 0,.slice rA n rc,.slice cA cl.length cc]) 86 (0,0))∈F)(hr:RowL mP 54 F rA n rl)(hw:RwsIn F rl xss)(hc:RowL yq 88 F cA cl.length cl)(hck:∀k,k<cl.length -> ∃q,cl.getD k yq.dflt=⟨some ⟨q,0,none⟩,(W (k*ev)).length,(W (k*ev)).length,ij (W (k*ev))⟩ /\ (q,.rows 1 (W (k*ev)).length (aN (W (k*ev))) 3 (0,0))∈F)(hcl:cl.length <= 1000)(No:ev<128)(hn:n<128)(hlen:∀i,i<n -> (xss.getD i []).length <= 1000):Sp Tryz.prog 19 #[vP rp 0] (ap [] []) F (λ u H'=>∃x:Option Addr × Nat × HL,H'=ap [] [x.2.2] /\ (u=.slice x.1 (cw ev n xss (av W ev cl.length)).length x.2.1 /\ SlIs gS 5 (cw ev n xss (av W ev cl.length)) x.1 x.2.1 x.2.2)):=by
 have hxn_:xss.length=n:=by rw[<- hw.len,hr.len]
 have Rm:∀i,i<xss.length -> (xss.getD i []).length <= 1000:=λ i hi=>hlen i (by omega)
 have WI:=vN (ev:=ev) (n:=n) Rm (n-0) (by omega)
 refine Sp.runM Tryz.func19 rfl (mc RP mn) (A:=[]) (Ts:=[]) rfl λ w0=>?_
 refine ae 11 [.ro 0] λ _=>RN.nt<|RN.ct [] [0] (yG none 0 0 ev [] ([]:HL) _ (SlIs.nil _ _) rfl (by omega) (by decide)) ?_
 rintro _ ⟨A1,c2,T3⟩ ⟨rfl,Z_⟩
 dsimp only at Z_
 refine ae 5 [.own 0] λ n5=>RN.draw [6,7] []<|ag [] [0,1,2,3,4,5] [.own 0,.ro 0]<|RD.one 6 (RDO.ct [] [] [0] (yG A1 1 c2 n ([]++[u8.wrap (ev:Int)]) T3 _ Z_ rfl (by omega) (by decide)) ?_)
 rintro _ ⟨A6,c7,T8⟩ ⟨rfl,hs9⟩
 dsimp only at hs9
 refine RD.one 7 (RDO.ev [] [.own 0] λ _=>?_)
 refine RD.fin<|ae 10 [.ro 0] λ _=>RN.ct (Hp:=[]) (Tp:=[]) [] [] (si 0 (n:Int) rp _) ?_
 rintro _ m10 rfl
 refine ae 3 [] λ _=>cj 3 (congrArg (λ v_=>(.lit [.slice A6 v_ c7] 50 (0,0):Blk)) (show 2=(fB ev n xss 0).length from rfl))<|RN.range (σ:=Nat × Option Addr × Nat × HL) (τ:=Nat × Option Addr × Nat × HL × Rw) (encs:=λ (x_:Rw)=>#[.slice x_.A x_.n x_.c]) (xs:=(Ir rl 0 n)) (enters_of Tryz.func69 (by kernel_rfl) rfl) (λ ⟨m_,A_,c_,T_⟩=>([((n5+0),.lit [.slice A_ ((fB ev n xss m_).length) c_] 50 (0,0))],[T_])) (λ i_ ⟨m_,A_,c_,T_⟩=>m_=i_ /\ SlIs gS 5 (fB ev n xss m_) A_ c_ T_) (λ c_ ⟨m_,A_,c_,T_⟩=>False) (λ ⟨m_,A_,c_,T_,p_⟩=>⟨[(0,vP rp 0),(3,vP (n5+0) 0),(4,.slice p_.A p_.n p_.c)],[((n5+0),.lit [.slice A_ ((fB ev n xss m_).length) c_] 50 (0,0))],[T_],True,0⟩) (λ i_ x_ ⟨m_,A_,c_,T_,p_⟩=>m_=i_ /\ p_=rl.getD (0+m_) mP.dflt /\ m_<n-0 /\ SlIs gS 5 (fB ev n xss m_) A_ c_ T_) (0,A6,c7,T8) (⟨rfl,hs9⟩) [3] [0] (vM S3 bp ev S0 rp n rc cc 0 n (m10+1) (m10+2) (m10+0) rA cA rl cl _ (az 1) (az 0) (az 2) (aq RP) hr.up ⟨by omega,by omega,by omega⟩) ?_ ?_ ?_ ?_
 ·rintro l_ i_ x_ ⟨m_,A_,c_,T_⟩ Y11 w12 ZX ⟨rfl,IS⟩ mt14
  refine ae 3 [] λ _=>?_
  refine mt14 (m_,A_,c_,T_,x_) [0] [0] ?_
  try dsimp only
  exact⟨rfl,(pB ZX).2,(pB ZX).1,IS⟩
 ·rintro l_ i_ x_ ⟨m_,A_,c_,T_,p_⟩ Y15 w16 hx17 ⟨rfl,hp_,hlt_,IS⟩
  obtain⟨bk,ok,Nk,fk,ck,UN,hIk,Zo,Zm,Us⟩:=hw.get (k:=0+m_) (by rw[hr.len];omega)
  rw[Nat.zero_add] at UN Zo Zm
  have hle_:=vN (ev:=ev) (n:=n) Rm m_ (by omega)
  refine aB 4 (congrArg (λ v_:Rw=>Value.slice v_.A v_.n v_.c) (hp_.trans ((congrArg (λ z_=>rl.getD z_ mP.dflt) (Nat.zero_add m_)).trans UN)))<|ae 1 [] λ _=>RN.draw [3,4] []<|ag [] [0,1] [.own 0]<|RD.one 2 (RDO.ct [] (Hp:=[]) (Tp:=[]) [] [] (IW _ (xss.getD m_ []).length ck (xss.getD m_ []) _ (.rows bk ok Nk fk (0,0) _ _ (aq (List.mem_append_right Y15 (List.mem_append_right _ hIk))) Zo rfl Zm) (by have h_:=hlen m_ (by omega);omega)) ?_)
  rintro _ q18 rfl
  refine RD.one 3 (RDO.appU (c':=((xss.getD m_ []).length)) (tx:=50) [] Cr (fB ev n xss m_) (lM (xss.getD m_ [])) 0 rfl IS (by rw[jb];have h_:=hlen m_ (by omega);omega) (IG (q:=q18) (n:=(xss.getD m_ []).length) (N:=(xss.getD m_ []).length) (l:=lM (xss.getD m_ [])) (fz:=(0,0)) (az 0) (jb _) (Nat.le_refl _)) ?_)
  rintro A19 c20 T21 ⟨hs22,hz23⟩
  refine RD.one 4 (RDO.ev [] [.own 1] λ _=>?_)
  refine RD.fin<|ae 1 [] λ _=>cj 1 (congrArg (λ v_=>(.lit [.slice A19 v_ c20] 50 (0,0):Blk)) (show (fB ev n xss m_).length+(lM (xss.getD m_ [])).length=(fB ev n xss (m_+1)).length by rw[mu (by omega),List.length_append]))<|RN.rn (m_+1,A19,c20,T21) [1] [0] ?_
  try dsimp only
  exact⟨rfl,by rw[mu (by omega)];exact hs22⟩
 ·rintro d24 ⟨m_,A_,c_,T_⟩  ⟨rfl,IS⟩
  rw[mt] at IS
  refine cj 1 (congrArg (λ v_=>(.lit [.slice A_ (fB ev n xss v_).length c_] 50 (0,0):Blk)) (mt rl 0 n)) ?_
  have hq0_:SlIs gS 5 (ga (fB ev n xss (n-0)) (av W ev cl.length) 0 0) A_ c_ T_:=by rw[Cs];exact IS
  refine cj 1 (congrArg (λ v_=>(.lit [.slice A_ v_ c_] 50 (0,0):Blk)) (show (fB ev n xss (n-0)).length=(ga (fB ev n xss (n-0)) (av W ev cl.length) 0 0).length by rw[Cs]))<|ae 14 [.ro 0] λ _=>RN.loop (σ:=Nat × Option Addr × Nat × HL) (λ ⟨k_,UR,UO,ZH⟩=>⟨[(3,vP (n5+0) 0),(35,.slice cA cl.length cc),(36,vI (cl.length:Int)),(37,vI (k_:Int))],[(d24,.obj (.deferred (some []))),((n5+0),.lit [.slice UR ((ga (fB ev n xss (n-0)) (av W ev cl.length) k_ 0).length) UO] 50 (0,0))],[ZH],k_ <= cl.length /\ SlIs gS 5 (ga (fB ev n xss (n-0)) (av W ev cl.length) k_ 0) UR UO ZH,cl.length-k_⟩) (0,A_,c_,T_) [0,1] [0] (⟨Nat.zero_le _,hq0_⟩) ?_
  rintro⟨k_,UR,UO,ZH⟩ ⟨TT,UB⟩ Ww
  refine ae 6 [] λ _=>RN.em ((k_:Int)<(cl.length:Int)) 38 (λ h27=>?_) λ h27=>?_
  ·refine ae 7 [] λ _=>?_
   obtain⟨qx28,SA,Nx28,fx28,fzx28,XP,hqx28,hox28,hgx28⟩:=hc.at (k:=k_) (by omega)
   refine aB 35 (congrArg (λ v_=>(.slice v_ cl.length cc:Value)) XP)<|RN.ro (λ _=>(mc RP (mc hqx28 mn)))<|ai 2 [.ix k_,.rorow 1 (SA+k_) 0,.rorow 1 (SA+k_) 1] [((SA*2+k_*2)+1)=(SA+k_)*2+1 /\ (SA+k_)<Nx28,(SA*2+k_*2)=(SA+k_)*2+0 /\ (SA+k_)<Nx28,(k_:Int)=((k_:Nat):Int) /\ k_<cl.length] λ _=>aB 40 (congrArg (λ v_=>(.agg #[.slice v_.A v_.n v_.c,.int .u64 v_.r]:Value)) hgx28) ?_
   obtain⟨qk,Xe,WH⟩:=hck k_ (by omega)
   refine aB 40 (congrArg (λ v_:Ck=>(.agg #[.slice v_.A v_.n v_.c,.int .u64 v_.r]:Value)) Xe)<|aB 40 (congrArg (λ v_=>(.agg #[vS qk 0 (W (k_*ev)).length (W (k_*ev)).length,.int .u64 v_]:Value)) (sB (W:=W) (ev:=ev) (m:=cl.length) (k:=k_) (by omega)).symm)<|ae 10 [.own 0,.own 0] λ n29=>RN.loop (σ:=Nat × Option Addr × Nat × HL) (λ ⟨j_,A3_,c3_,T3_⟩=>⟨[(3,vP (n5+0) 0),(6,vP (n29+0) 0),(35,vS qx28 (SA*2) cl.length cc),(36,vI (cl.length:Int)),(37,vI (k_:Int)),(41,vI (j_:Int))],[((n29+0),.lit [vS qk 0 ((W (k_*ev)).length) ((W (k_*ev)).length),.int .u64 ((av W ev cl.length).getD k_ 0)] 88 (0,0)),(d24,.obj (.deferred (some []))),((n5+0),.lit [.slice A3_ ((ga (fB ev n xss (n-0)) (av W ev cl.length) k_ j_).length) c3_] 50 (0,0))],[T3_],j_ <= 8 /\ SlIs gS 5 (ga (fB ev n xss (n-0)) (av W ev cl.length) k_ j_) A3_ c3_ T3_,8-j_⟩) (0,UR,UO,ZH) [0,1,2] [0] (⟨Nat.zero_le _,UB⟩) ?_
   rintro⟨j_,A3_,c3_,T3_⟩ ⟨UX,hs3_⟩ mt31
   refine ae 6 [] λ _=>RN.em ((j_:Int)<8) 42 (λ V4=>?_) λ V4=>?_
   ·refine ae 11 [] λ _=>RN.draw [8,9] []<|aG [] [0,1,3,2,4,5,6] [.own 2,.own 0,.nw,.dv] [0 <= 8*(j_:Int),aU (8*(j_:Int))]<|ja 50 (congrArg (λ v_=>(.int .u8 v_:Value)) (IE (r:=(av W ev cl.length).getD k_ 0) (k:=j_) (by omega)))<|RD.one 7 (RDO.ev [] [] λ n33=>?_)
    refine RD.one 8 (lY [] Cr (ga (fB ev n xss (n-0)) (av W ev cl.length) k_ j_) [u8.wrap (((av W ev cl.length).getD k_ 0).fdiv (2 ^ (8*j_)))] 0 0 rfl hs3_ (by rw[List.length_singleton,so (by rw[da];omega)];omega) ?_)
    rintro A34 c35 Ze ⟨hs37,hz38⟩
    refine RD.one 9 (RDO.ev [] [.own 3] λ _=>?_)
    refine RD.fin<|ai 6 [.nw] [aU ((j_:Int)+1)] λ _=>cj 3 (congrArg (λ v_=>(.lit [.slice A34 v_ c35] 50 (0,0):Blk)) (show (ga (fB ev n xss (n-0)) (av W ev cl.length) k_ j_).length+1=(ga (fB ev n xss (n-0)) (av W ev cl.length) k_ (j_+1)).length by rw[ux,List.length_append,List.length_singleton])) ?_
    refine mt31 (j_+1,A34,c35,Ze) [1,2,3] [0] ?_
    try dsimp only
    exact⟨⟨by omega,by rw[ux];exact hs37⟩,by omega⟩
   ·refine ai 11 [.nw] [aU ((k_:Int)+1)] λ _=>aB 35 (congrArg (λ v_=>(.slice v_ cl.length cc:Value)) XP.symm)<|cj 2 (congrArg (λ v_=>(.lit [.slice A3_ v_ c3_] 50 (0,0):Blk)) (show (ga (fB ev n xss (n-0)) (av W ev cl.length) k_ j_).length=(ga (fB ev n xss (n-0)) (av W ev cl.length) (k_+1) 0).length by rw[show j_=8 by omega,pC (by rw[da];omega)])) ?_
    refine Ww (k_+1,A3_,c3_,T3_) [1,2] [0] ?_
    try dsimp only
    exact⟨⟨by omega,by rw[<- pC (by rw[da];omega),show 8=j_ by omega];exact hs3_⟩,by omega⟩
  ·refine ae 12 [.own 1] λ _=>RN.retM [d24] [0] [] [] [0] (v:=.slice UR ((ga (fB ev n xss (n-0)) (av W ev cl.length) k_ 0).length) UO) (H':=(ap [] [ZH])) ?_
   obtain rfl:k_=cl.length:=by omega
   have RU:(ga (fB ev n xss (n-0)) (av W ev cl.length) cl.length 0)=(cw ev n xss (av W ev cl.length)):=yB (by omega) (by rw[da])
   rw[RU] at UB
   exact⟨(UR,UO,ZH),rfl,by rw[<- RU],UB⟩
 ·exact λ _ _ _ h=>h.elim
theorem Ew(l:List Int)(A:Option Addr)(n c q:Nat)(lp:Nat)(X F:HL)(J:Nat -> HL -> Prop)(Jx:HL -> Prop)(T0:HL)(hb:n <= 1000000)(hl:RowL gS 5 F A n l)(hq:(q,.lit [.slice A n c] 50 (0,0))∈F)(hY:∀i x H Y,(aY l)[i]?=some x -> J i H -> YL Tryz.prog lp (JH x) H (Y++(X++F)) (λ b H'=>(b=true /\ J (i+1) H') \/ (b=false /\ Jx H')))(Sx:J 0 T0):Sp Tryz.prog 77 #[.func (.yield lp) #[] #[],vP q 0] (ap [] [T0]) (X++F) (λ _ H'=>J (aY l).length H' \/ Jx H'):=by
 have Vq:=hl.len
 refine Sp.run Tryz.func77 rfl (mc (List.mem_append_right _ hq) mn) (A:=[]) (Ts:=[T0]) rfl λ w0=>?_
 refine ae 6 [] λ _=>RN.loop (σ:=Nat × HL) (λ ⟨i,T_⟩=>⟨[(0,.func (.yield lp) #[] #[]),(1,vP q 0),(3,vI (8*(i:Int)))],[],[T_],i <= jk l /\ J i T_,jk l-i⟩) (0,T0) [] [0] (⟨Nat.zero_le _,Sx⟩) ?_
 rintro⟨i,T_⟩ ⟨WR,Q8⟩ Rx
 refine ae 9 [.ro 0] λ _=>RN.em (8*(i:Int)<(n:Int)) 9 (λ h3=>?_) λ h3=>?_
 ·refine ae 17 [] λ _=>RN.loop (σ:=Nat) (λ k=>⟨[(0,.func (.yield lp) #[] #[]),(1,vP q 0),(3,vI (8*(i:Int))),(4,.int .u64 (cQ l i k)),(5,vI (k:Int))],[],[T_],k <= 8 /\ 8*i+k <= n,8-k⟩) 0 [] [0] (⟨by omega,by omega⟩) ?_
  rintro k ⟨TT,hk2_⟩ SQ
  refine ae 6 [] λ _=>RN.em ((k:Int)<8) 14 (λ h6=>?_) λ h6=>?_
  ·refine ai 9 [.nw,.ro 0] [aU ((8*(i:Int))+(k:Int))] λ _=>RN.em ((8*(i:Int))+(k:Int)<(n:Int)) 21 (λ h7=>?_) λ h7=>?_
   ·refine ai 11 [.ro 0,.nw] [aU ((8*(i:Int))+(k:Int))] λ _=>?_
    obtain⟨qx8,ox8,Nx8,fx8,fzx8,hAx8,hqx8,hox8,hgx8⟩:=(hl.up (X:=X)).at (k:=(8*i+k)) (by omega)
    refine aB 25 (congrArg (λ v_=>(.slice v_ n c:Value)) hAx8)<|RN.ro (λ _=>(mc (List.mem_append_right _ hq) (mc hqx8 mn)))<|ai 2 [.ix (8*i+k),.rorow 1 (ox8+(8*i+k)) 0] [(ox8*1+(8*i+k)*1)=(ox8+(8*i+k))*1+0 /\ (ox8+(8*i+k))<Nx8,(8*(i:Int))+(k:Int)=(((8*i+k):Nat):Int) /\ (8*i+k)<n] λ _=>aB 30 (congrArg (λ v_=>(.int .u8 v_:Value)) hgx8)<|ai 14 [.nw,.dv,.gen,.nw] [aU ((k:Int)+1),0 <= 8*(k:Int),aU (8*(k:Int))] λ _=>?_
    refine SQ (k+1) [] [0] ?_
    try dsimp only
    exact⟨⟨by omega,by omega⟩,by omega⟩
   ·obtain rfl:k=Ct l i:=by unfold Ct;omega
    refine ae 10 [] λ _=>RN.yield 0 (hY i (cQ l i (Ct l i)) _ _ (ff (by omega)) Q8) ?_
    rintro b_ T9 (⟨rfl,YX⟩|⟨rfl,YX⟩)
    ·refine ai 12 [.gen,.nw] [aU ((8*(i:Int))+8)] λ _=>aB 3 (congrArg (λ v_=>(vI v_:Value)) (show (8*(i:Int)+8)=8*((i+1:Nat):Int) by omega)) ?_
     refine Rx (i+1,T9) [] [0] ?_
     try dsimp only
     exact⟨⟨by unfold jk at *;omega,YX⟩,by unfold jk at *;omega⟩
    ·refine ae 4 [] λ _=>RN.ret [] [] [0] (v:=.tuple #[]) (H':=(ap [] [T9])) ?_
     rw[bD]
     exact .inr YX
  ·obtain rfl:k=Ct l i:=by unfold Ct;omega
   refine ae 19 [] λ _=>RN.yield 0 (hY i (cQ l i (Ct l i)) _ _ (ff (by omega)) Q8) ?_
   rintro b_ Of (⟨rfl,Tl⟩|⟨rfl,Tl⟩)
   ·refine ai 12 [.gen,.nw] [aU ((8*(i:Int))+8)] λ _=>aB 3 (congrArg (λ v_=>(vI v_:Value)) (show (8*(i:Int)+8)=8*((i+1:Nat):Int) by omega)) ?_
    refine Rx (i+1,Of) [] [0] ?_
    try dsimp only
    exact⟨⟨by unfold jk at *;omega,Tl⟩,by unfold jk at *;omega⟩
   ·refine ae 4 [] λ _=>RN.ret [] [] [0] (v:=.tuple #[]) (H':=(ap [] [Of])) ?_
    rw[bD]
    exact .inr Tl
 ·obtain rfl:i=jk l:=by unfold jk at *;omega
  refine ae 5 [] λ _=>RN.ret [] [] [0] (v:=.tuple #[]) (H':=(ap [] [T_])) ?_
  rw[bD]
  exact .inl (by rw[lN];exact Q8)
theorem yI(l:List Int)(A:Option Addr)(n c q:Nat)(F:HL)(hb:n <= 1000000)(hl:RowL gS 5 F A n l)(hq:(q,.lit [.slice A n c] 50 (0,0))∈F):It Tryz.prog 77 #[vP q 0] F JH (aY l):=by
 intro X lp J Jx H0 hY h0
 have key:=Ew l A n c q lp X F J Jx H0 hb hl hq hY h0
 rw[bD] at key
 exact key
theorem uE(A:Option Addr)(n c:Nat)(F:HL):Sp Tryz.prog 45 #[.slice A n c] (ap [] []) F (λ u H'=>∃m:Nat,H'=ap [((m+0),.lit [.slice A n c] 50 (0,0))] [] /\ u=.func (.func 77) #[] #[vP (m+0) 0]):=by
 refine Sp.run Tryz.func45 rfl mn (A:=[]) (Ts:=[]) rfl λ w0=>?_
 refine ae 12 [] λ n1=>RN.ret [] [0] [] (v:=.func (.func 77) #[] #[vP (n1+0) 0]) (H':=(ap [((n1+0),.lit [.slice A n c] 50 (0,0))] [])) ?_
 exact⟨_,rfl,rfl⟩
theorem AE(b:ByteArray)(l:List Int)(A:Option Addr)(n c:Nat)(F:HL)(VF:b.size <= 1000000)(hb:n <= 1000000)(hl:RowL gS 5 F A n l):Sp Tryz.prog 18 #[.string b,.slice A n c] [] F (λ u H'=>u=.int .u64 (kO b l) /\ H'=[]):=by
 have Vq:=hl.len
 refine Sp.runM Tryz.func18 rfl mn (A:=[]) (Ts:=[]) rfl λ w0=>?_
 refine ai 22 [.nw,.nw] [0 <= (n:Int) /\ (0:Int)<8 /\ (n:Int) <= 9223372036854775807,0 <= (n:Int) /\ (0:Int)<8 /\ (n:Int) <= 9223372036854775807] λ _=>RN.en ((n:Int) % 8=0) 14 (λ h1=>?_) λ h1=>?_
 ·refine ai 8 [.nw] [aU (((n:Int) / 8)+1)] λ _=>aB 19 (congrArg (λ v_=>(vI v_:Value)) (show ((n:Int) / 8)+1=((jk l:Nat):Int)+1 by unfold jk;omega))<|RN.cp (iX b (((jk l:Nat):Int)+1) _ VF)<|ae 8 [.own 0] λ n2=>RN.ct (Hp:=[]) (Tp:=[]) [] [] (uE A n c _) ?_
  rintro _ m3 rfl
  refine ae 3 [] λ _=>RN.range (σ:=Nat) (τ:=Nat × Int) (encs:=λ (x_:Int)=>#[.int .u64 x_]) (xs:=(aY l)) (enters_of Tryz.func77 (by kernel_rfl) rfl) (λ m_=>([((n2+0),.lit [.int .u64 (dS (cL b (((jk l:Nat):Int)+1)) (aY l) m_)] 45 (0,0))],[])) (λ i_ m_=>m_=i_) (λ c_ m_=>False) (λ ⟨m_,y_⟩=>⟨[(1,.slice A n c),(6,vP (n2+0) 0),(7,.int .u64 y_)],[((n2+0),.lit [.int .u64 (dS (cL b (((jk l:Nat):Int)+1)) (aY l) m_)] 45 (0,0))],[],True,0⟩) (λ i_ x_ ⟨m_,y_⟩=>m_=i_ /\ y_=x_) 0 rfl [1] [] (yI l A n c (m3+0) _ hb (hl.mono λ x hx=>aq hx) (az 0)) ?_ ?_ ?_ ?_
  ·rintro l_ i_ x_ m_ Y4 w5 hx6 rfl V9
   refine ae 3 [] λ _=>?_
   refine V9 (m_,x_) [0] [] ?_
   try dsimp only
   exact⟨rfl,rfl⟩
  ·rintro l_ i_ x_ ⟨m_,y_⟩ Y8 w9 hx10 ⟨rfl,Xd⟩
   refine ae 4 [.own 0] λ _=>RN.cp (eM (dS (cL b (((jk l:Nat):Int)+1)) (aY l) m_) y_ _)<|ae 3 [.own 0] λ _=>?_
   have e_:dS (cL b (((jk l:Nat):Int)+1)) (aY l) (m_+1)=gl (dS (cL b (((jk l:Nat):Int)+1)) (aY l) m_) y_:=by rw[dS,Xd,qV hx10]
   refine cj 0 (congrArg (λ v_=>(.lit [.int .u64 v_] 45 (0,0):Blk)) e_.symm)<|RN.rn (m_+1) [0] [] ?_
   try dsimp only
   first|done|rfl
  ·rintro d11 m_  rfl
   refine ae 8 [.own 1] λ _=>RN.cp (eM (dS (cL b (((jk l:Nat):Int)+1)) (aY l) (aY l).length) (u64.wrap (n:Int)) _)<|RN.cp (eM (gl (dS (cL b (((jk l:Nat):Int)+1)) (aY l) (aY l).length) (u64.wrap (n:Int))) 0 _)<|ae 3 [] λ _=>RN.retM [d11] [0] [] [] [] (v:=.int .u64 (gl (gl (dS (cL b (((jk l:Nat):Int)+1)) (aY l) (aY l).length) (u64.wrap (n:Int))) 0)) (H':=[]) ?_
   exact⟨by rw[lN,<- Vq];rfl,rfl⟩
  ·exact λ _ _ _ h=>h.elim
 ·refine ai 12 [.nw,.nw] [aU ((((n:Int) / 8)+1)+1),aU (((n:Int) / 8)+1)] λ _=>aB 19 (congrArg (λ v_=>(vI v_:Value)) (show (((n:Int) / 8)+1)+1=((jk l:Nat):Int)+1 by unfold jk;omega))<|RN.cp (iX b (((jk l:Nat):Int)+1) _ VF)<|ae 8 [.own 0] λ Xm=>RN.ct (Hp:=[]) (Tp:=[]) [] [] (uE A n c _) ?_
  rintro _ m13 rfl
  refine ae 3 [] λ _=>RN.range (σ:=Nat) (τ:=Nat × Int) (encs:=λ (x_:Int)=>#[.int .u64 x_]) (xs:=(aY l)) (enters_of Tryz.func77 (by kernel_rfl) rfl) (λ m_=>([((Xm+0),.lit [.int .u64 (dS (cL b (((jk l:Nat):Int)+1)) (aY l) m_)] 45 (0,0))],[])) (λ i_ m_=>m_=i_) (λ c_ m_=>False) (λ ⟨m_,y_⟩=>⟨[(1,.slice A n c),(6,vP (Xm+0) 0),(7,.int .u64 y_)],[((Xm+0),.lit [.int .u64 (dS (cL b (((jk l:Nat):Int)+1)) (aY l) m_)] 45 (0,0))],[],True,0⟩) (λ i_ x_ ⟨m_,y_⟩=>m_=i_ /\ y_=x_) 0 rfl [1] [] (yI l A n c (m13+0) _ hb (hl.mono λ x hx=>aq hx) (az 0)) ?_ ?_ ?_ ?_
  ·rintro l_ i_ x_ m_ Y14 w15 hx16 rfl mt17
   refine ae 3 [] λ _=>?_
   refine mt17 (m_,x_) [0] [] ?_
   try dsimp only
   exact⟨rfl,rfl⟩
  ·rintro l_ i_ x_ ⟨m_,y_⟩ Y18 w19 hx20 ⟨rfl,Xd⟩
   refine ae 4 [.own 0] λ _=>RN.cp (eM (dS (cL b (((jk l:Nat):Int)+1)) (aY l) m_) y_ _)<|ae 3 [.own 0] λ _=>?_
   have e_:dS (cL b (((jk l:Nat):Int)+1)) (aY l) (m_+1)=gl (dS (cL b (((jk l:Nat):Int)+1)) (aY l) m_) y_:=by rw[dS,Xd,qV hx20]
   refine cj 0 (congrArg (λ v_=>(.lit [.int .u64 v_] 45 (0,0):Blk)) e_.symm)<|RN.rn (m_+1) [0] [] ?_
   try dsimp only
   first|done|rfl
  ·rintro d21 m_  rfl
   refine ae 8 [.own 1] λ _=>RN.cp (eM (dS (cL b (((jk l:Nat):Int)+1)) (aY l) (aY l).length) (u64.wrap (n:Int)) _)<|RN.cp (eM (gl (dS (cL b (((jk l:Nat):Int)+1)) (aY l) (aY l).length) (u64.wrap (n:Int))) 0 _)<|ae 3 [] λ _=>RN.retM [d21] [0] [] [] [] (v:=.int .u64 (gl (gl (dS (cL b (((jk l:Nat):Int)+1)) (aY l) (aY l).length) (u64.wrap (n:Int))) 0)) (H':=[]) ?_
   exact⟨by rw[lN,<- Vq];rfl,rfl⟩
  ·exact λ _ _ _ h=>h.elim
def sP:Enc Int:=⟨1,λ p k=>match k with|0=>vI p|_=>default,0⟩
noncomputable def PJ:TypeInfo:=match Tryz.prog.info? 3 with | some i=>i | none=>⟨.bool,"",0,0,false,0,0,none,false,#[]⟩
noncomputable def PK:Value:=match PJ.zero with|some z=>z|none=>.bool false
theorem Cx:EncOk sP Tryz.prog 3 PJ PK where
 info:=by kernel_rfl
 zero:=by kernel_rfl
 size:=by kernel_rfl
 zsize:=by kernel_rfl
 zcell:=λ k hk=>by
  have h:∀k<1,PK.cells[k]?=some (sP.cell sP.dflt k):=by intro k hk;(iterate 1 (rcases k with _|k;· kernel_rfl));omega
  exact h k hk
 one:=λ x k=>by unfold sP;dsimp only;split <;> rfl
 bytes:=Nat.le_of_ble_eq_true (by kernel_rfl)
theorem uF(b:ByteArray)(xs:List Int)(A:Option Addr)(n c:Nat)(F:HL)(VF:b.size <= 1000000)(hb:n <= 1000000)(hl:RowL sP 3 F A n xs):Sp Tryz.prog 16 #[.string b,.slice A n c] [] F (λ u H'=>u=.int .u64 (jW b xs) /\ H'=[]):=by
 have Vq:=hl.len
 refine Sp.run Tryz.func16 rfl mn (A:=[]) (Ts:=[]) rfl λ w0=>?_
 refine ae 10 [] λ _=>RN.cp (iX b (n:Int) _ VF)<|ae 12 [] λ _=>RN.loop (σ:=Nat) (λ k=>⟨[(5,.int .u64 (uV (cL b (n:Int)) xs k)),(12,.slice A n c),(13,vI (n:Int)),(14,vI (k:Int))],[],[],k <= n,n-k⟩) 0 [] [] (Nat.zero_le _) ?_
 rintro k TT Rx
 refine ae 6 [] λ _=>RN.em ((k:Int)<(n:Int)) 15 (λ h3=>?_) λ h3=>?_
 ·refine ae 7 [] λ _=>?_
  obtain⟨qx4,Wu,Nx4,fx4,fzx4,Xa,Yi,hox4,Yx⟩:=hl.at (k:=k) (by omega)
  refine aB 12 (congrArg (λ v_=>(.slice v_ n c:Value)) Xa)<|RN.ro (λ _=>(mc Yi mn))<|ai 2 [.ix k,.rorow 0 (Wu+k) 0] [(Wu*1+k*1)=(Wu+k)*1+0 /\ (Wu+k)<Nx4,(k:Int)=((k:Nat):Int) /\ k<n] λ _=>aB 17 (congrArg (λ v_=>(vI v_:Value)) Yx)<|ae 7 [] λ _=>RN.cp (eM (uV (cL b (n:Int)) xs k) (u64.wrap (xs.getD k 0)) _)<|ai 8 [.nw] [aU ((k:Int)+1)] λ _=>aB 12 (congrArg (λ v_=>(.slice v_ n c:Value)) Xa.symm) ?_
  refine Rx (k+1) [] [] ?_
  try dsimp only
  exact⟨by omega,by omega⟩
 ·refine ae 9 [] λ _=>RN.cp (eM (uV (cL b (n:Int)) xs k) 0 _)<|ae 3 [] λ _=>RN.ret [] [] [] (v:=.int .u64 (gl (uV (cL b (n:Int)) xs k) 0)) (H':=[]) ?_
  obtain rfl:k=n:=by omega
  exact⟨by unfold jW;rw[Vq],rfl⟩
def yJ(cs:List Value):Nat -> Nat -> Value:=λ i k=>match k with|0=>cs.getD i default|_=>default
theorem PL:∀cs:List Value,bm 1 (yJ cs) cs.length=cs:=λ cs=>by
 have h:∀n,n <= cs.length -> bm 1 (yJ cs) n=cs.take n:=λ n=>by
  induction n with
  | zero=>intro _;rfl
  | succ n ih =>
   intro hn
   rw[bm,ih (by omega),List.take_add_one,List.getElem?_eq_getElem (by omega)]
   simp[yJ,List.getD_eq_getElem?_getD,List.getElem?_eq_getElem (show n<cs.length by omega),List.range_one]
 rw[h _ (Nat.le_refl _),List.take_length]
def QV:Nat × Blk -> Nat × Blk
 | (b,.lit cs ty fz)=>(b,.rows 1 cs.length (yJ cs) ty fz)
 | x=>x
theorem Lk(F:HL):dT (F.map QV)=dT F:=by
 unfold dT
 rw[List.map_map]
 refine List.map_congr_left λ x _=>?_
 obtain⟨b,k⟩:=x
 cases k with
 | lit cs ty fz=>simp[QV,Blk.den,PL]
 | rows w n g ty fz=>rfl
 | obj o=>rfl
def oJ(j k:Nat):List Int:=[bB j 0,bB j 1,bB j 2]++((fO j).take k).flatMap λ x=>[x.op,x.n]
theorem sC{j k:Nat}(h:k<(fO j).length):oJ j (k+1)=oJ j k++[((fO j).getD k dIns).op,((fO j).getD k dIns).n]:=by
 unfold oJ
 rw[kq h dIns,List.flatMap_append]
 simp
theorem mv{j:Nat}:∀k,k <= (fO j).length -> (oJ j k).length=3+2*k
 | 0,_=>rfl
 | k+1,h=>by
  rw[sC (by omega),List.length_append,mv k (by omega)]
  simp
  omega
def yK(j:Nat):Int:=jW ⟨#[112,114,111,103,114,97,109]⟩ (oJ j (cG j))
theorem yL(h:Nat):il [.int .i64 0]=aJ sP (List.replicate h 0):=by
 have e:=jZ (e:=sP) ([]:List Int) h
 rw[List.nil_append] at e
 rw[show List.replicate h (0:Int)=List.replicate h sP.dflt from rfl,e]
 funext i k
 cases k with
 | zero=>rfl
 | succ k=>simp[il,aJ,sP]
theorem sD{h:Nat}{b:Nat}{T:TypeId}:SlIs sP T [] (some ⟨b,0,none⟩) h [(b,.rows 1 h (aJ sP (List.replicate h 0)) T (0,0))]:=.inr ⟨b,0,List.replicate h 0,by simp,by rw[Nat.zero_add];rfl,by simp,Nat.zero_le _,rfl⟩
theorem SrcIn.off{P:Program}{F:HL}{q o:Nat}{xs:List Int}{cs:List Value}{ty:TypeId}{fz:Nat × Nat}(hq:(q,.lit cs ty fz)∈F)(hc:∀j,j<xs.length -> cs[o+j]?=some (vI (xs.getD j 0))):SrcIn P sP F (some ⟨q,o,Option.none⟩) xs.length xs:=by
 have hlen:(ay sP xs).length=xs.length:=by rw[bn];exact Nat.mul_one _
 have bP:∀j,j<xs.length -> (ay sP xs)[j]?=some (vI (xs.getD j 0)):=λ j hj=>by
  rw[m6 (e:=sP) xs (by decide) (by rw[show sP.w=1 from rfl];omega)]
  rw[show sP.w=1 from rfl,Nat.div_one,Nat.mod_one]
  rfl
 refine⟨⟨rfl,λ h=>by cases h⟩,λ c hk X w hR=>Src.ofSlice w hk _ _ _ _ (by rw[hlen];exact(Nat.mul_one _).symm) ?_ ?_⟩
 ·intro j u hj
  have hl:j<xs.length:=by rw[<- hlen];exact(List.getElem?_eq_some_iff.1 hj).1
  rw[bP j hl] at hj
  obtain rfl:=Option.some.inj hj
  have hb:=hR.holds _ (List.mem_append_right X hq)
  simp only[Blk.den] at hb
  rw[Addr.add_lit]
  simp[World.cell?,hb,hc j hl]
 ·intro u hu
  simp only[ay,List.mem_flatMap,List.mem_map] at hu
  obtain⟨x,_,k,_,rfl⟩:=hu
  exact Cx.one x k
def PM(F:HL)(j:Nat)(A:Option Addr):Prop:=0<cG j -> ∃b rest,A=some ⟨b,0,none⟩ /\ (b,Blk.rows 1 (pv j++rest).length (yJ (pv j++rest)) 155 (0,0))∈F
theorem InsW.r{F:HL}{j:Nat}{A:Option Addr}(h:InsW F j A):PM (F.map QV) j A:=λ h0=>by
 obtain⟨b,rest,h1,h2⟩:=h h0
 exact⟨b,rest,h1,List.mem_map.2 ⟨_,h2,rfl⟩⟩
theorem NM{j:Nat}(hj:j<5)(rest:List Value){k:Nat}(hk:k<cG j):(.agg #[(pv j++rest).getD (k*2) default,(pv j++rest).getD (1+k*2) default]:Value)=.agg #[vI ((fO j).getD k dIns).op,vI ((fO j).getD k dIns).n]:=by
 have hl:=lL hj
 have e:∀m,m<2 -> (pv j++rest).getD (m+k*2) default=iq.cell ((fO j).getD k dIns) m:=λ m hm=>by
  rw[nz hj,List.getD_eq_getElem?_getD,List.getElem?_append_left (by rw[bn,show iq.w=2 from rfl];omega),m6 (e:=iq) (fO j) (by decide) (by rw[show iq.w=2 from rfl];omega),show iq.w=2 from rfl,show (m+k*2) / 2=k by omega,show (m+k*2) % 2=m by omega]
  rfl
 have e0:=e 0 (by decide)
 rw[Nat.zero_add] at e0
 rw[e0,e 1 (by decide)]
 rfl
theorem Ey(j:Nat)(A:Option Addr)(c:Nat)(F:HL)(hj:j<5)(hw:PM F j A):Sp Tryz.prog 44 #[.agg #[.slice A (cG j) c,vI (bB j 0),vI (bB j 1),vI (bB j 2)]] [] F (λ u H'=>u=.int .u64 (yK j) /\ H'=[]):=by
 have hl_:=lL hj
 have hl32_:=qD hj
 refine Sp.run Tryz.func44 rfl mn (A:=[]) (Ts:=[]) rfl λ w0=>?_
 refine ai 22 [.own 0,.nw,.nw,.mk 0 ((3+(2*(((cG j):Nat):Int))).toNat)] [0=((0:Nat):Int) /\ 3+(2*(((cG j):Nat):Int))=(((3+(2*(((cG j):Nat):Int))).toNat:Nat):Int) /\ 0 <= (3+(2*(((cG j):Nat):Int))).toNat /\ 8*((3+(2*(((cG j):Nat):Int))).toNat) <= 140737488355328 /\ 1=1 /\ (3+(2*(((cG j):Nat):Int))).toNat <= 9223372036854775807,aU (3+(2*(((cG j):Nat):Int))),aU (2*(((cG j):Nat):Int))] λ n1=>cj 0 (congrArg (λ v_=>(.rows 1 ((3+(2*(((cG j):Nat):Int))).toNat) v_ 3 (0,0):Blk)) (show (il [vI 0])=(aJ sP (List.replicate ((3+(2*(((cG j):Nat):Int))).toNat) 0)) from (yL _)))<|ld 0<|RN.appU (c':=3) (tx:=22) Cx ([]:List Int) ([bB j 0,bB j 1,bB j 2]) 0 rfl (sD (h:=(3+(2*(((cG j):Nat):Int))).toNat) (b:=(n1+1)) (T:=3)) (Nat.le_of_ble_eq_true rfl) (SrcIn.off (q:=(n1+0)) (o:=1) (ty:=109) (fz:=(0,0)) (cs:=[.slice A (cG j) c,vI (bB j 0),vI (bB j 1),vI (bB j 2)]) (az 0) (λ j_ UX=>by obtain rfl|rfl|rfl:j_=0 \/ j_=1 \/ j_=2:=by { have:j_<3:=UX;omega } <;> rfl)) ?_
 rintro A2 c3 T4 ⟨Sd,hz6⟩
 refine ae 13 [.own 0] λ _=>RN.loop (σ:=Nat × Option Addr × Nat × HL) (λ ⟨k_,A_,c_,T_⟩=>⟨[(3,.slice A_ (3+2*k_) c_),(17,.slice A (cG j) c),(18,vI (((cG j):Nat):Int)),(19,vI (k_:Int))],[((n1+0),.lit [.slice A (cG j) c,vI (bB j 0),vI (bB j 1),vI (bB j 2)] 109 (0,0))],[T_],k_ <= cG j /\ SlIs sP 3 (oJ j k_) A_ c_ T_,cG j-k_⟩) (0,A2,c3,T4) [0] [0] (⟨Nat.zero_le _,Sd⟩) ?_
 rintro⟨k_,A_,c_,T_⟩ ⟨TT,IS⟩ X0
 refine ae 6 [] λ _=>RN.em ((k_:Int)<(((cG j):Nat):Int)) 20 (λ h9=>?_) λ h9=>?_
 ·refine ae 7 [] λ _=>?_
  obtain⟨qi,rst,hAi,hqi⟩:=hw (by omega)
  refine aB 17 (congrArg (λ v_=>(.slice v_ (cG j) c:Value)) hAi)<|RN.ro (λ _=>(mc hqi mn)) ?_
  have hcl_:2*cG j <= (pv j++rst).length:=by rw[List.length_append,nz hj,bn,lL hj,show iq.w=2 from rfl];omega
  refine ai 2 [.ix k_,.rorow 0 (k_*2) 0,.rorow 0 (1+k_*2) 0] [((0+k_*2)+1)=(1+k_*2)*1+0 /\ (1+k_*2)<((pv j++rst).length),(0+k_*2)=k_*2*1+0 /\ k_*2<((pv j++rst).length),(k_:Int)=((k_:Nat):Int) /\ k_<(cG j)] λ _=>aB 22 (NM hj rst (k:=k_) (by omega))<|ae 11 [.own 0,.own 0,.own 0,.own 0] λ Sg=>fR Cx (oJ j k_) [((fO j).getD k_ dIns).op,((fO j).getD k_ dIns).n] 0 0 (mv k_ (by omega)).symm IS (by rw[mv k_ (by omega)];show _+2 <= _;omega) ?_
  rintro Xj Xf To ⟨Ta,WA⟩
  refine ai 8 [.nw] [aU ((k_:Int)+1)] λ _=>aB 17 (congrArg (λ v_=>(.slice v_ (cG j) c:Value)) hAi.symm) ?_
  refine X0 (k_+1,Xj,Xf,To) [2] [0] ?_
  try dsimp only
  exact⟨⟨by omega,by rw[sC (by omega)];exact Ta⟩,by omega⟩
 ·refine ae 9 [] λ _=>RN.cp (uF ⟨#[112,114,111,103,114,97,109]⟩ (oJ j k_) A_ (3+2*k_) c_ _ (by decide) (by omega) (IS.rowN (ar 0) (mv k_ (by omega))))<|ae 3 [] λ _=>RN.ret [] [] [] (v:=.int .u64 (jW ⟨#[112,114,111,103,114,97,109]⟩ (oJ j k_))) (H':=[]) ?_
  obtain rfl:k_=cG j:=by omega
  exact⟨rfl,rfl⟩
theorem Ez(j:Nat)(A:Option Addr)(c:Nat)(F:HL)(hj:j<5)(hw:InsW F j A):Sp Tryz.prog 44 #[.agg #[.slice A (cG j) c,vI (bB j 0),vI (bB j 1),vI (bB j 2)]] [] F (λ u H'=>u=.int .u64 (yK j) /\ H'=[]):=(Ey j A c _ hj hw.r).den (Lk F)
def oK(tt:Nat -> Int)(jj:Nat -> Nat)(k:Nat):List Int:=(List.range k).flatMap λ i=>[tt i,i64.wrap (yK (jj i))]
theorem sE(tt:Nat -> Int)(jj:Nat -> Nat)(k:Nat):oK tt jj (k+1)=oK tt jj k++[tt k,i64.wrap (yK (jj k))]:=by simp[oK,List.range_succ]
theorem mw(tt:Nat -> Int)(jj:Nat -> Nat):∀k,(oK tt jj k).length=2*k
 | 0=>rfl
 | k+1=>by
  rw[sE,List.length_append,mw tt jj k]
  simp
  omega
def Ma(tt:Nat -> Int)(jj:Nat -> Nat)(n:Nat):Int:=jW ⟨#[98,111,111,107]⟩ (oK tt jj n)
theorem EA(bp:Nat)(A:Option Addr)(n c:Nat)(vs:List Ver)(tt:Nat -> Int)(jj:Nat -> Nat)(F:HL)(hbp:(bp,.lit [.slice A n c] 105 (0,0))∈F)(hl:RowL fw 111 F A n vs)(hn:n <= 1000)(hv:∀k,k<n -> ∃Av cv,vs.getD k fw.dflt=ko (tt k) (jj k) Av cv /\ jj k<5 /\ InsW F (jj k) Av):Sp Tryz.prog 17 #[vP bp 0] [] F (λ u H'=>u=.int .u64 (Ma tt jj n) /\ H'=[]):=by
 refine Sp.run Tryz.func17 rfl (mc hbp mn) (A:=[]) (Ts:=[]) rfl λ w0=>?_
 refine ai 29 [.ro 0,.nw,.mk 0 ((2*(n:Int)).toNat),.ro 0] [0=((0:Nat):Int) /\ 2*(n:Int)=(((2*(n:Int)).toNat:Nat):Int) /\ 0 <= (2*(n:Int)).toNat /\ 8*((2*(n:Int)).toNat) <= 140737488355328 /\ 1=1 /\ (2*(n:Int)).toNat <= 9223372036854775807,aU (2*(n:Int))] λ n1=>cj 0 (congrArg (λ v_=>(.rows 1 ((2*(n:Int)).toNat) v_ 3 (0,0):Blk)) (show (il [vI 0])=(aJ sP (List.replicate ((2*(n:Int)).toNat) 0)) from (yL _)))<|ld 0<|RN.loop (σ:=Nat × Option Addr × Nat × HL) (λ ⟨k_,A_,c_,T_⟩=>⟨[(3,.slice A_ (2*k_) c_),(16,.slice A n c),(17,vI (n:Int)),(18,vI (k_:Int))],[],[T_],k_ <= n /\ SlIs sP 3 (oK tt jj k_) A_ c_ T_,n-k_⟩) (0,some ⟨(n1+0),0,none⟩,(2*(n:Int)).toNat,[((n1+0),.rows 1 ((2*(n:Int)).toNat) (aJ sP (List.replicate ((2*(n:Int)).toNat) 0)) 3 (0,0))]) [] [0] (⟨Nat.zero_le _,sD⟩) ?_
 rintro⟨k_,A_,c_,T_⟩ ⟨TT,IS⟩ Ri
 refine ae 6 [] λ _=>RN.em ((k_:Int)<(n:Int)) 19 (λ h4=>?_) λ h4=>?_
 ·refine ae 7 [] λ _=>?_
  obtain⟨qx5,AS,TH,fx5,Za,R_,TN,Yk,TU⟩:=hl.at (k:=k_) (by omega)
  refine aB 16 (congrArg (λ v_=>(.slice v_ n c:Value)) R_)<|RN.ro (λ _=>(mc hbp (mc TN mn)))<|ai 2 [.ix k_,.rorow 1 (AS+k_) 0,.rorow 1 (AS+k_) 1,.rorow 1 (AS+k_) 2,.rorow 1 (AS+k_) 3,.rorow 1 (AS+k_) 4] [((AS*5+k_*5)+4)=(AS+k_)*5+4 /\ (AS+k_)<TH,((AS*5+k_*5)+3)=(AS+k_)*5+3 /\ (AS+k_)<TH,((AS*5+k_*5)+2)=(AS+k_)*5+2 /\ (AS+k_)<TH,((AS*5+k_*5)+1)=(AS+k_)*5+1 /\ (AS+k_)<TH,(AS*5+k_*5)=(AS+k_)*5+0 /\ (AS+k_)<TH,(k_:Int)=((k_:Nat):Int) /\ k_<n] λ _=>aB 21 (congrArg (λ v_=>(.agg #[vI v_.t,.slice v_.A v_.n v_.c,vI v_.e0,vI v_.e1,vI v_.e2]:Value)) TU) ?_
  obtain⟨Av,cv,ev_,UX,hw_⟩:=hv k_ (by omega)
  refine aB 21 (congrArg (λ v_:Ver=>(.agg #[vI v_.t,.slice v_.A v_.n v_.c,vI v_.e0,vI v_.e1,vI v_.e2]:Value)) ev_)<|ae 4 (ow 0 5) λ n6=>RN.draw [8] []<|ag [] [0,1,3,2,4] (ow 0 5)<|RD.cp [] 5 (λ X_=>(Ez (jj k_) Av cv _ UX (λ h0_=>(hw_ h0_).imp λ _ Xc=>Xc.imp λ _ Rj=>⟨Rj.1,oM Rj.2⟩)))<|ag [] [6] []<|RD.one 7 (RDO.ev [] [] λ n8=>?_)
  refine RD.one 8 (lY [] Cx (oK tt jj k_) [tt k_,i64.wrap (yK (jj k_))] 0 0 (mw tt jj k_).symm IS (by rw[mw];show _+2 <= _;omega) ?_)
  rintro A9 Ug Of ⟨Vf,X6⟩
  refine ag [] [9] []<|RD.fin<|ai 6 [.nw] [aU ((k_:Int)+1)] λ _=>aB 16 (congrArg (λ v_=>(.slice v_ n c:Value)) R_.symm) ?_
  refine Ri (k_+1,A9,Ug,Of) [] [0] ?_
  try dsimp only
  exact⟨⟨by omega,by rw[sE];exact Vf⟩,by omega⟩
 ·refine ae 9 [] λ _=>RN.cp (uF ⟨#[98,111,111,107]⟩ (oK tt jj k_) A_ (2*k_) c_ _ (by decide) (by omega) (IS.rowN (ar 0) (mw tt jj k_)))<|ae 3 [] λ _=>RN.ret [] [] [] (v:=.int .u64 (jW ⟨#[98,111,111,107]⟩ (oK tt jj k_))) (H':=[]) ?_
  obtain rfl:k_=n:=by omega
  exact⟨rfl,rfl⟩
def AF(tk:Int)(j1 j2:Nat):Int:=Ma (λ k=>if k=0 then 0 else tk) (λ k=>if k=0 then j1 else j2) 2
theorem NN{tk:Int}{j1 j2 bp:Nat}{TB F:HL}(hB:Book2 tk j1 j2 bp TB)(hT:∀x∈TB,x∈F)(SG:j1<5)(RS:j2<5):Sp Tryz.prog 17 #[vP bp 0] [] F (λ u H'=>u=.int .u64 (AF tk j1 j2) /\ H'=[]):=by
 cases hB with
 | mk A c A1 A2 c1 c2 Hl T1 T2 hs h1 h2 =>
  refine EA bp A 2 c _ _ _ F (hT _ (by simp[ap])) (hs.rowN (λ x hx=>hT x (by simp[ap,hx])) rfl) (by decide) (λ k hk=>?_)
  obtain rfl|rfl:k=0 \/ k=1:=by omega
  ·exact⟨A1,c1,rfl,SG,h1.wrd F λ x hx=>hT x (by simp[ap,hx])⟩
  ·exact⟨A2,c2,rfl,RS,h2.wrd F λ x hx=>hT x (by simp[ap,hx])⟩
theorem IX{b:ByteArray}{l:List Int}{Z:Int}(e:kO b l=Z)(A:Option Addr)(n c:Nat)(F:HL)(VF:b.size <= 1000000)(hb:n <= 1000000)(hl:RowL gS 5 F A n l):Sp Tryz.prog 18 #[.string b,.slice A n c] [] F (λ u H'=>u=.int .u64 Z /\ H'=[]):=e ▸ AE b l A n c F VF hb hl
theorem RwsIn.up{F X:HL}{rs:List Rw}{xss:List (List Inp)}(h:RwsIn F rs xss):RwsIn (X++F) rs xss:=h.mono λ x hx=>List.mem_append_right _ hx
theorem Ll{ev n:Nat}{xss:List (List Inp)}{roots:List Int}(hn:xss.length <= 1000)(hr:roots.length <= 1000)(hx:∀i,i<xss.length -> (xss.getD i []).length <= 10):(cw ev n xss roots).length <= 100000:=by
 have h0:=yB (ev:=ev) (n:=xss.length) (xss:=xss) (roots:=roots) rfl rfl
 have h2:(cw ev n xss roots).length=(cw ev xss.length xss roots).length:=by simp[cw]
 rw[h2,<- h0,so (Nat.le_refl _)]
 have h1:∀m,m <= xss.length -> (fB ev xss.length xss m).length <= 2+10*m:=λ m=>by
  induction m with
  | zero=>intro _;simp[fB]
  | succ m ih =>
   intro hm
   rw[mu (by omega),List.length_append,jb]
   have:=ih (by omega)
   have:=hx m (by omega)
   omega
 have:=h1 xss.length (Nat.le_refl _)
 omega
theorem EB(S3:Setup)(bp ev S0 rp n rc cc:Nat)(rA cA:Option Addr)(rl:List Rw)(cl:List Ck)(xss:List (List Inp))(W:Nat -> List Int)(F:HL)(RP:(rp,.lit (Setup.l S3++[vP bp 0,vI (ev:Int),vP S0 0,.slice rA n rc,.slice cA cl.length cc]) 86 (0,0))∈F)(hr:RowL mP 54 F rA n rl)(hw:RwsIn F rl xss)(hc:RowL yq 88 F cA cl.length cl)(hck:∀k,k<cl.length -> ∃q,cl.getD k yq.dflt=⟨some ⟨q,0,none⟩,(W (k*ev)).length,(W (k*ev)).length,ij (W (k*ev))⟩ /\ (q,.rows 1 (W (k*ev)).length (aN (W (k*ev))) 3 (0,0))∈F)(hcl:cl.length <= 1000)(No:ev<128)(hn:n<128)(hlen:∀i,i<n -> (xss.getD i []).length <= 1000)(BH:Int)(hel_:(cw ev n xss (av W ev cl.length)).length <= 1000000)(hBH:∀F',(∀x∈F,x∈F') -> Sp Tryz.prog 17 #[vP bp 0] [] F' (λ u H'=>u=.int .u64 BH /\ H'=[])):Sp Tryz.prog 15 #[vP rp 0] [] F (λ u H'=>u=.int .u64 (jW ⟨#[114,101,112,108,97,121]⟩ [i64.wrap BH,(ev:Int),i64.wrap (kO ⟨#[114,101,112,108,97,121]⟩ (cw ev n xss (av W ev cl.length)))]) /\ H'=[]):=by
 obtain⟨Z,hZ⟩:∃Z,kO ⟨#[114,101,112,108,97,121]⟩ (cw ev n xss (av W ev cl.length))=Z:=⟨_,rfl⟩
 rw[hZ]
 refine Sp.run Tryz.func15 rfl (mc RP mn) (A:=[]) (Ts:=[]) rfl λ w0=>?_
 refine ae 6 [] λ _=>RN.draw [] []<|ag [] [0,6,10,1,7,2,8,3,9] [.ro 0,.ro 0]<|RD.cp [] 4 (λ X_=>(hBH _ (λ x hx=>oM hx)))<|ag [] [5] []<|RD.one 11 (RDO.ct [] (Hp:=[]) (Tp:=[]) [] [] (yH S3 bp ev S0 rp n rc cc rA cA rl cl xss W _ (aq RP) hr.up hw.up hc.up (λ k hk=>(hck k hk).imp λ q h_=>⟨h_.1,aq h_.2⟩) hcl No hn hlen) ?_)
 rintro _ ⟨A1,c2,T3⟩ ⟨rfl,Z_⟩
 dsimp only at Z_
 refine RD.cp [] 12 (λ X_=>(IX hZ A1 _ c2 _ (by decide) hel_ (Z_.rowN (aS 0) rfl)))<|ag [] [13] []<|RD.one 14 (RDO.ev [] [] λ n5=>?_)
 refine RD.dn 0 (.rows 1 3 (aN [i64.wrap BH,(ev:Int),i64.wrap Z]) 3 (0,0))<|RD.cp [] 15 (λ X_=>(nX (⟨#[114,101,112,108,97,121]⟩) ([i64.wrap BH,(ev:Int),i64.wrap Z]) (n5+0) 3 _ (by decide) (Nat.le_of_ble_eq_true rfl) (Nat.le_of_ble_eq_true rfl) (jH 0)))<|ag [] [16] []<|RD.fin<|ae 1 [] λ _=>?_
 exact RN.ret [] [] [] ⟨rfl,rfl⟩
def sF(BH:Int)(ev n:Nat)(xss:List (List Inp))(W:Nat -> List Int):Int:=jW ⟨#[114,101,112,108,97,121]⟩ [i64.wrap BH,(ev:Int),i64.wrap (kO ⟨#[114,101,112,108,97,121]⟩ (cw ev n xss (av W ev (n / ev+1))))]
section
variable {rs_:List Bx} {ds_:List Dr} {bp ev rp n:Nat} {S S2:Setup} {W:Nat -> List Int} {xss:List (List Inp)} {G F:HL}
theorem PN(h:RecH rs_ ds_ bp ev rp S S2 W n xss G)(hF:∀x∈G,x∈F)(No:ev<128)(hn:n<128)(hlen:∀i,i<n -> (xss.getD i []).length <= 10):Sp Tryz.prog 19 #[vP rp 0] (ap [] []) F (λ u H'=>∃x:Option Addr × Nat × HL,H'=ap [] [x.2.2] /\ (u=.slice x.1 (cw ev n xss (av W ev (n / ev+1))).length x.2.1 /\ SlIs gS 5 (cw ev n xss (av W ev (n / ev+1))) x.1 x.2.1 x.2.2)):=by
 cases h with
 | mk h3 hs hg hcs hb hr hrl hrr hc hcl hck =>
  have hd:n / ev <= n:=Nat.div_le_self _ _
  have h5:=hr.toRowL (F:=F) λ x hx=>hF x (by simp[ap,hx])
  rw[hrl] at h5
  have key:=yH _ bp ev _ rp n _ _ _ _ _ _ xss W F (hF _ (List.mem_append_left _ (List.mem_singleton.2 rfl))) h5 (hrr F λ x hx=>hF x (by simp[ap,hx])) (hc.toRowL λ x hx=>hF x (by simp[ap,hx])) (hck F λ x hx=>hF x (by simp[ap,hx])) (by omega) No hn (λ i hi=>by have:=hlen i hi;omega)
  rw[hcl] at key
  exact key
theorem NO(h:RecH rs_ ds_ bp ev rp S S2 W n xss G)(hF:∀x∈G,x∈F)(No:ev<128)(hn:n<128)(hlen:∀i,i<n -> (xss.getD i []).length <= 10)(BH:Int)(hBH:∀F',(∀x∈F,x∈F') -> Sp Tryz.prog 17 #[vP bp 0] [] F' (λ u H'=>u=.int .u64 BH /\ H'=[])):Sp Tryz.prog 15 #[vP rp 0] [] F (λ u H'=>u=.int .u64 (sF BH ev n xss W) /\ H'=[]):=by
 cases h with
 | mk h3 hs hg hcs hb hr hrl hrr hc hcl hck =>
  have hd:n / ev <= n:=Nat.div_le_self _ _
  have h5:=hr.toRowL (F:=F) λ x hx=>hF x (by simp[ap,hx])
  rw[hrl] at h5
  have hw:=hrr F λ x hx=>hF x (by simp[ap,hx])
  have hx:=hw.len
  have key:=EB _ bp ev _ rp n _ _ _ _ _ _ xss W F (hF _ (List.mem_append_left _ (List.mem_singleton.2 rfl))) h5 hw (hc.toRowL λ x hx=>hF x (by simp[ap,hx])) (hck F λ x hx=>hF x (by simp[ap,hx])) (by omega) No hn (λ i hi=>by have:=hlen i hi;omega) BH (by rw[hcl];exact Nat.le_trans (Ll (by omega) (by rw[da];omega) (λ i hi=>hlen i (by omega))) (by decide)) hBH
  rw[hcl] at key
  exact key
end
theorem SlIs.capL{α:Type}{e:Enc α}{T:TypeId}{l:List α}{A:Option Addr}{cap:Nat}{Hl:HL}(h:SlIs e T l A cap Hl):l.length <= cap:=by
 rcases h with ⟨_,rfl,rfl,_⟩|⟨b,o,full,_,_,h1,h2,h3⟩
 ·exact Nat.le_refl _
 ·exact h2
theorem IY{tk:Int}{j1 j2 bp:Nat}{TB F:HL}{z:Int}(hB:Book2 tk j1 j2 bp TB)(hT:∀x∈TB,x∈F)(SG:j1<5)(RS:j2<5)(e:AF tk j1 j2=z):Sp Tryz.prog 17 #[vP bp 0] [] F (λ u H'=>u=.int .u64 z /\ H'=[]):=e ▸ NN hB hT SG RS
theorem IZ{rs_:List Bx}{ds_:List Dr}{bp ev rp n:Nat}{S S2:Setup}{W:Nat -> List Int}{xss:List (List Inp)}{G F:HL}{z:Int}(h:RecH rs_ ds_ bp ev rp S S2 W n xss G)(hF:∀x∈G,x∈F)(No:ev<128)(hn:n<128)(hlen:∀i,i<n -> (xss.getD i []).length <= 10)(BH:Int)(hBH:∀F',(∀x∈F,x∈F') -> Sp Tryz.prog 17 #[vP bp 0] [] F' (λ u H'=>u=.int .u64 BH /\ H'=[]))(e:sF BH ev n xss W=z):Sp Tryz.prog 15 #[vP rp 0] [] F (λ u H'=>u=.int .u64 z /\ H'=[]):=e ▸ NO h hF No hn hlen BH hBH
theorem Lm{rs_:List Bx}{ds_:List Dr}{bp ev rp n m:Nat}{S S2:Setup}{W:Nat -> List Int}{xss:List (List Inp)}{G F:HL}(h:RecH rs_ ds_ bp ev rp S S2 W n xss G)(hF:∀x∈G,x∈F)(hn:n <= 1000)(e:n / ev=m):Sp Tryz.prog 12 #[vP rp 0] (ap [] []) F (λ u H'=>∃x:Option Addr × Nat × HL,H'=ap [] [x.2.2] /\ (u=.slice x.1 (m+1) x.2.1 /\ SlIs kr 45 (av W ev (m+1)) x.1 x.2.1 x.2.2)):=e ▸ Cq h hF hn
theorem qI(dp:Nat)(e:Int)(F:HL):Sp Tryz.prog 53 #[vP dp 0,.bool true,vI e] [] F (λ u H'=>u=.tuple #[] /\ H'=[]):=by
 refine Sp.run Tryz.func53 rfl mn (A:=[]) (Ts:=[]) rfl λ w0=>?_
 refine ae 15 [] λ _=>?_
 exact RN.ret [] [] [] ⟨rfl,rfl⟩
theorem NP(dp n c pl:Nat)(A:Option Addr)(e:Int)(F:HL):Sp Tryz.prog 53 #[vP dp 0,.bool false,vI e] [(dp,.lit [.slice A n c,vI 0,vI (pl:Int)] 127 (0,0))] F (λ u H'=>u=.tuple #[] /\ H'=[(dp,.lit [.slice A n c,vI e,vI (pl:Int)] 127 (0,0))]):=by
 refine Sp.run Tryz.func53 rfl mn (A:=[(dp,.lit [.slice A n c,vI 0,vI (pl:Int)] 127 (0,0))]) (Ts:=[]) rfl λ w0=>?_
 refine ae 21 [.own 0,.own 0] λ _=>?_
 exact RN.ret [] [0] [] ⟨rfl,rfl⟩
theorem Cy(dp n c pl:Nat)(A:Option Addr)(er e:Int)(F:HL)(YA:¬ er=0)(Wk:(dp,.lit [.slice A n c,vI er,vI (pl:Int)] 127 (0,0))∈F)(b:Bool):Sp Tryz.prog 53 #[vP dp 0,.bool b,vI e] [] F (λ u H'=>u=.tuple #[] /\ H'=[]):=by
 refine Sp.run Tryz.func53 rfl (mc Wk mn) (A:=[]) (Ts:=[]) rfl λ w0=>?_
 refine ae 5 [] λ _=>tq (b) 8 (λ h1=>?_) λ h1=>?_
 ·refine ae 10 [] λ _=>?_
  exact RN.ret [] [] [] ⟨rfl,rfl⟩
 ·refine ae 8 [.ro 0] λ _=>cH 14 (decide_eq_false YA)<|ae 2 [] λ _=>?_
  exact RN.ret [] [] [] ⟨rfl,rfl⟩
theorem QW{v:Nat}(h:v<128):i64.wrap ((BitVec.ofInt 64 0 ||| BitVec.ofInt 64 (i64.wrap (i64.wrap (u8.wrap ((BitVec.ofInt 8 (v:Int) &&& BitVec.ofInt 8 127).toNat:Int))*1))).toNat:Int)=(v:Int):=by
 rw[NL ⟨by omega,by omega⟩,Int.mul_one,show i64.wrap (v:Int)=(v:Int) by rw[IntKind.wrap_i64];omega,show i64.wrap (v:Int)=(v:Int) by rw[IntKind.wrap_i64];omega]
 rw[show BitVec.ofInt 64 0=0#64 from rfl,BitVec.zero_or,BitVec.toNat_ofInt,IntKind.wrap_i64]
 omega
theorem SlIs.whole{α:Type}{e:Enc α}{T:TypeId}{l:List α}{b n:Nat}(hn:l.length=n):SlIs e T l (some ⟨b,0,none⟩) n [(b,.rows e.w n (aJ e l) T (0,0))]:=by
 subst hn
 exact .inr ⟨b,0,l,by simp,by rw[Nat.zero_add],by simp,Nat.le_refl _,by simp⟩
theorem sG(dp n c pl v:Nat)(A:Option Addr)(xs:List Int)(F:HL)(hl:RowL gS 5 F A n xs)(h1:1 <= n)(hc:n <= c)(hv:xs.getD 0 0=(v:Int))(hv1:v<128):Sp Tryz.prog 52 #[vP dp 0] (ap [(dp,.lit [.slice A n c,vI 0,vI (pl:Int)] 127 (0,0))] []) F (λ u H'=>∃x:Unit,H'=ap [(dp,.lit [.slice (jf A 1 1 c) (n-1) (c-1),vI 0,vI (pl:Int)] 127 (0,0))] [] /\ u=vI (v:Int)):=by
 refine Sp.run Tryz.func52 rfl mn (A:=[(dp,.lit [.slice A n c,vI 0,vI (pl:Int)] 127 (0,0))]) (Ts:=[]) rfl λ w0=>?_
 refine ae 30 [.own 0] λ _=>RN.rounds 1<|ae 29 [.own 0] λ _=>RN.em (0=(n:Int)) 20 (λ h1=>?_) λ h1=>?_
 ·(exfalso;omega)
 ·refine ae 10 [.own 0] λ _=>?_
  obtain⟨qx2,ox2,Nx2,fx2,fzx2,hAx2,hqx2,hox2,hgx2⟩:=hl.at (k:=0) (by omega)
  refine aB 27 (congrArg (λ v_=>(.slice v_ n c:Value)) hAx2)<|RN.ro (λ _=>(mc hqx2 mn))<|ai 2 [.ix 0,.rorow 0 (ox2+0) 0] [(ox2*1+0*1)=(ox2+0)*1+0 /\ (ox2+0)<Nx2,0=((0:Nat):Int) /\ 0<n] λ _=>aB 30 (congrArg (λ v_=>(.int .u8 v_:Value)) hgx2)<|aB 30 (congrArg (λ v_=>(.int .u8 v_:Value)) hv)<|ae 13 [] λ _=>aB 38 (congrArg (λ v_=>(vI v_:Value)) (QW hv1))<|ae 9 [] λ _=>RN.em ((v:Int)<128) 40 (λ h3=>?_) λ h3=>?_
  ·refine ae 10 [] λ _=>RN.cp (qI dp 8 _)<|ae 11 [.own 0] λ _=>RN.slA (A:=A) (n:=n) (cap:=c) (l:=1) (sz:=1) rfl (by omega) hc<|ae 11 [.own 0] λ _=>RN.ret [] [0] [] (v:=vI (v:Int)) (H':=(ap [(dp,.lit [.slice (jf A 1 1 c) (n-1) (c-1),vI 0,vI (pl:Int)] 127 (0,0))] [])) ?_
   exact⟨(),rfl,rfl⟩
  ·(exfalso;omega)
theorem yM(dp n c pl m:Nat)(A:Option Addr)(F:HL)(hm:m <= n)(hc:n <= c):Sp Tryz.prog 85 #[vP dp 0,vI (m:Int)] (ap [(dp,.lit [.slice A n c,vI 0,vI (pl:Int)] 127 (0,0))] []) F (λ u H'=>∃x:Unit,H'=ap [(dp,.lit [.slice (jf A m 1 c) (n-m) (c-m),vI 0,vI (pl:Int)] 127 (0,0))] [] /\ u=.slice A m c):=by
 refine Sp.run Tryz.func85 rfl mn (A:=[(dp,.lit [.slice A n c,vI 0,vI (pl:Int)] 127 (0,0))]) (Ts:=[]) rfl λ w0=>?_
 refine ae 15 [.own 0] λ _=>aB 13 (congrArg (λ v_=>(.bool v_:Value)) (decide_eq_true (show (n:Int) >= (m:Int) by omega)))<|RN.cp (qI dp 7 _)<|ai 34 [.own 0,.own 0,.sl0 m,.own 0] [(m:Int)=((m:Nat):Int) /\ m <= c] λ _=>RN.slA (A:=A) (n:=n) (cap:=c) (l:=m) (sz:=1) rfl (by omega) hc<|ae 11 [.own 0] λ _=>RN.ret [] [0] [] (v:=.slice A m c) (H':=(ap [(dp,.lit [.slice (jf A m 1 c) (n-m) (c-m),vI 0,vI (pl:Int)] 127 (0,0))] [])) ?_
 exact⟨(),rfl,rfl⟩
theorem I0(dp n c pl:Nat)(m:Int)(A:Option Addr)(er:Int)(F:HL)(YA:¬ er=0)(Wk:(dp,.lit [.slice A n c,vI er,vI (pl:Int)] 127 (0,0))∈F):Sp Tryz.prog 85 #[vP dp 0,vI m] [] F (λ u H'=>u=.slice none 0 0 /\ H'=[]):=by
 refine Sp.run Tryz.func85 rfl (mc Wk mn) (A:=[]) (Ts:=[]) rfl λ w0=>?_
 refine ae 15 [.ro 0] λ _=>RN.cp (Cy dp n c pl A er 7 _ YA (aq Wk) (decide ((n:Int) >= m)))<|ae 12 [.ro 0] λ _=>cH 19 (nf (decide_eq_false YA))<|ae 6 [] λ _=>?_
 exact RN.ret [] [] [] ⟨rfl,rfl⟩
theorem Ln(dp n c pl:Nat)(A:Option Addr)(e:Int)(F:HL):Sp Tryz.prog 53 #[vP dp 0,.bool false,vI e] (ap [(dp,.lit [.slice A n c,vI 0,vI (pl:Int)] 127 (0,0))] []) F (λ u H'=>∃x:Unit,H'=ap [(dp,.lit [.slice A n c,vI e,vI (pl:Int)] 127 (0,0))] [] /\ u=.tuple #[]):=(show Sp _ _ _ (ap [(dp,.lit [.slice A n c,vI 0,vI (pl:Int)] 127 (0,0))] []) _ _ from NP dp n c pl A e F).mono λ u H' h=>⟨(),h.2,h.1⟩
def fX:List Inp:=(List.range 36).map λ i:Nat=>gz (i:Int)
theorem AG{i:Nat}(h:i<36):fX.getD i dI=gz (i:Int):=by simp[fX,h]
abbrev lS(F:HL):Prop:=(0,Blk.rows 3 36 (gc fX) 232 (0,0))∈F
theorem I1(v:Nat)(F:HL)(hv:v<36)(hI:lS F):Sp Tryz.prog 109 #[.int .u8 (v:Int)] [] F (λ u H'=>u=.tuple #[.agg #[vI ((gz (v:Int)).dx),vI ((gz (v:Int)).dy),vI ((gz (v:Int)).act)],vI 0] /\ H'=[]):=by
 refine Sp.run Tryz.func109 rfl (mc hI mn) (A:=[]) (Ts:=[]) rfl λ w0=>?_
 refine ae 11 [] λ n1=>aB 5 (congrArg (λ v_=>(vI v_:Value)) (show i64.wrap (v:Int)=(v:Int) by rw[IntKind.wrap_i64];omega))<|ae 3 [] λ _=>RN.em ((v:Int) >= 36) 6 (λ h2=>?_) λ h2=>?_
 ·(exfalso;omega)
 ·refine ai 12 [.ix v,.rorow 0 v 0,.rorow 0 v 1,.rorow 0 v 2,.own 0,.own 0,.own 0] [((0+v*3)+2)=v*3+2 /\ v<36,((0+v*3)+1)=v*3+1 /\ v<36,(0+v*3)=v*3+0 /\ v<36,(v:Int)=((v:Nat):Int) /\ v<36] λ _=>RN.ret [.own 0,.own 0,.own 0] [] [] (v:=.tuple #[.agg #[vI ((fX.getD v dI).dx),vI ((fX.getD v dI).dy),vI ((fX.getD v dI).act)],vI 0]) (H':=[]) ?_
  exact⟨by rw[AG hv],rfl⟩
theorem Lo(v:Nat)(F:HL)(hv:36 <= v)(Xv:v<256):Sp Tryz.prog 109 #[.int .u8 (v:Int)] [] F (λ u H'=>u=.tuple #[.agg #[vI 0,vI 0,vI 0],vI 8] /\ H'=[]):=by
 refine Sp.run Tryz.func109 rfl mn (A:=[]) (Ts:=[]) rfl λ w0=>?_
 refine ae 11 [] λ n1=>aB 5 (congrArg (λ v_=>(vI v_:Value)) (show i64.wrap (v:Int)=(v:Int) by rw[IntKind.wrap_i64];omega))<|ae 3 [] λ _=>RN.em ((v:Int) >= 36) 6 (λ h2=>?_) λ h2=>?_
 ·refine ae 8 [.own 0,.own 0,.own 0] λ _=>?_
  exact RN.ret [.own 0,.own 0,.own 0] [] [] ⟨rfl,rfl⟩
 ·(exfalso;omega)
theorem I2(v lo hi:Int)(F:HL)(h1:lo <= v)(h2:v <= hi):Sp Tryz.prog 108 #[vI v,vI lo,vI hi] [] F (λ u H'=>u=.bool true /\ H'=[]):=by
 refine Sp.run Tryz.func108 rfl mn (A:=[]) (Ts:=[]) rfl λ w0=>?_
 refine ae 11 [] λ _=>cH 10 (decide_eq_true h1)<|ae 7 [] λ _=>RN.ret [] [] [] (v:=.bool (decide (v <= hi))) (H':=[]) ?_
 exact⟨by rw[decide_eq_true h2],rfl⟩
def jd(ys:List Int)(n k:Nat):List Inp:=((ys.take k).map gz)++List.replicate (n-k) dI
theorem EC{ys:List Int}{n k:Nat}(hk:k <= n)(hy:ys.length=n):(jd ys n k).length=n:=by
 subst hy
 simp[jd]
 omega
theorem ED{ys:List Int}{n k:Nat}(h:k<n)(hy:ys.length=n):(jd ys n k).set k (gz (ys.getD k 0))=jd ys n (k+1):=by
 subst hy
 apply List.ext_getElem?
 intro i
 unfold jd
 rw[List.getElem?_set]
 by_cases e:k=i
 ·subst e
  rw[if_pos rfl,if_pos (by simp;omega),List.getElem?_append,if_pos (by simp;omega),List.getElem?_map,List.getElem?_take,if_pos (by omega)]
  simp[h,List.getD_eq_getElem?_getD]
 ·rw[if_neg e,List.getElem?_append,List.getElem?_append]
  by_cases h1:i<k
  ·rw[if_pos (by simp;omega),if_pos (by simp;omega),List.getElem?_map,List.getElem?_map,List.getElem?_take,List.getElem?_take,if_pos h1,if_pos (by omega)]
  ·rw[if_neg (by simp;omega),if_neg (by simp;omega)]
   simp only[List.getElem?_replicate,List.length_map,List.length_take]
   congr 1
   simp only[eq_iff_iff]
   omega
theorem PO{l:List Inp}{n i:Nat}(hl:l.length=n)(h:i<n)(p:Inp):∀i' k',i'<n -> k'<3 -> db (db (db (aJ eE l) i 0 (vI p.dx)) i 1 (vI p.dy)) i 2 (vI p.act) i' k'=aJ eE (l.set i p) i' k':=λ i' k' h1 h2=>by
 unfold db aJ
 by_cases h1:i'=i
 ·subst h1
  rw[bF (by omega)]
  obtain rfl|rfl|rfl:k'=0 \/ k'=1 \/ k'=2:=by omega
  ·rw[if_neg (by simp),if_neg (by simp),if_pos ⟨rfl,rfl⟩];rfl
  ·rw[if_neg (by simp),if_pos ⟨rfl,rfl⟩];rfl
  ·rw[if_pos ⟨rfl,rfl⟩];rfl
 ·rw[bj (λ e=>h1 e.symm),if_neg (λ e=>h1 e.1),if_neg (λ e=>h1 e.1),if_neg (λ e=>h1 e.1)]
theorem I3(ys:List Int)(n:Nat):∀i' k',i'<n -> k'<3 -> il [vI 0,vI 0,vI 0] i' k'=aJ eE (jd ys n 0) i' k':=λ i' k' h1 h2=>by
 have e:(jd ys n 0).getD i' eE.dflt=dI:=by simp[jd,List.getD_eq_getElem?_getD,h1]
 unfold aJ
 rw[e]
 obtain rfl|rfl|rfl:k'=0 \/ k'=1 \/ k'=2:=by omega
 ·rfl
 ·rfl
 ·rfl
theorem I4{v lo hi:Int}(F:HL)(h1:lo <= v)(h2:v <= hi):Sp Tryz.prog 108 #[vI v,vI lo,vI hi] [] F (λ u H'=>u=.bool true /\ H'=[]):=I2 v lo hi F h1 h2
theorem I5(A:Option Addr)(n c:Nat)(ys:List Int)(F:HL)(hl:RowL gS 5 F A n ys)(h1:1 <= n /\ n <= 8)(hy8:∀i,0 <= ys.getD i 0 /\ ys.getD i 0<256)(hI:lS F):Sp Tryz.prog 86 #[.slice A n c,vI (n:Int)] [] F (λ u H'=>∃x:HL,H'=ap [] [x] /\ (((∀j,j<n -> ys.getD j 0<36) /\ ∃b,u=.tuple #[vS b 0 n n,vI 0] /\ x=[(b,.rows 3 n (aJ eE (ys.map gz)) 119 (0,0))]) \/ ((∃j,j<n /\ ¬ ys.getD j 0<36) /\ u=.tuple #[.slice none 0 0,vI 8] /\ x=[]))):=by
 refine Sp.run Tryz.func86 rfl mn (A:=[]) (Ts:=[]) rfl λ w0=>?_
 refine ae 11 [] λ _=>RN.cp (I4 _ (show (1:Int) <= (n:Int) by omega) (show (n:Int) <= 8 by omega))<|ae 14 [] λ _=>RN.em ((n:Int)<(n:Int)) 15 (λ h1=>?_) λ h1=>?_
 ·(exfalso;omega)
 ·refine ae 10 [] λ _=>RN.em ((n:Int)>(n:Int)) 20 (λ h2=>?_) λ h2=>?_
  ·(exfalso;omega)
  ·refine ai 20 [.mk n n] [(n:Int)=((n:Nat):Int) /\ (n:Int)=((n:Nat):Int) /\ n <= n /\ 24*n <= 140737488355328 /\ 3=3 /\ n <= 9223372036854775807] λ n3=>L9 0 (.rows 3 n (il [vI 0,vI 0,vI 0]) 119 (0,0)) (.rows 3 n (aJ eE (jd ys n 0)) 119 (0,0)) (yF (I3 ys n))<|RN.loop (σ:=Nat) (λ k_=>⟨[(6,vS (n3+0) 0 n n),(27,.slice A n c),(28,vI (n:Int)),(29,vI (k_:Int))],[((n3+0),.rows 3 n (aJ eE (jd ys n k_)) 119 (0,0))],[],k_ <= n /\ ∀j_,j_<k_ -> ys.getD j_ 0<36,n-k_⟩) 0 [0] [] (⟨Nat.zero_le _,λ j_ UX=>absurd UX (Nat.not_lt_zero _)⟩) ?_
   rintro k_ ⟨TT,RK⟩ SQ
   refine ae 6 [] λ _=>RN.em ((k_:Int)<(n:Int)) 30 (λ h6=>?_) λ h6=>?_
   ·refine ae 8 [] λ _=>?_
    obtain⟨v_,WB⟩:=Int.eq_ofNat_of_zero_le (hy8 k_).1
    have hv2_:v_<256:=by have:=(hy8 k_).2;omega
    obtain⟨qx7,RF,XX,fx7,fzx7,Ud,Vk,hox7,Vt⟩:=hl.at (k:=k_) (by omega)
    refine aB 27 (congrArg (λ v_=>(.slice v_ n c:Value)) Ud)<|RN.ro (λ _=>(mc Vk mn))<|ai 2 [.ix k_,.rorow 0 (RF+k_) 0] [(RF*1+k_*1)=(RF+k_)*1+0 /\ (RF+k_)<XX,(k_:Int)=((k_:Nat):Int) /\ k_<n] λ _=>aB 33 (congrArg (λ v_=>(.int .u8 v_:Value)) Vt)<|aB 33 (congrArg (λ w_:Int=>Value.int .u8 w_) WB)<|ae 7 [] λ _=>?_
    rcases Nat.lt_or_ge v_ 36 with Vb|Vb
    ·refine RN.cp (I1 v_ _ Vb (aq hI))<|ai 31 (ow 0 6++[.ix k_,.row 1 k_ 0,.row 1 k_ 1,.row 1 k_ 2,.nw]) [aU ((k_:Int)+1),((0+k_*3)+2)=k_*3+2 /\ k_<n,((0+k_*3)+1)=k_*3+1 /\ k_<n,(0+k_*3)=k_*3+0 /\ k_<n,(k_:Int)=((k_:Nat):Int) /\ k_<n] λ n8=>aB 27 (congrArg (λ v_=>(.slice v_ n c:Value)) Ud.symm)<|L9 1 (.rows 3 n (db (db (db (aJ eE (jd ys n k_)) k_ 0 (vI ((gz (v_:Int)).dx))) k_ 1 (vI ((gz (v_:Int)).dy))) k_ 2 (vI ((gz (v_:Int)).act))) 119 (0,0)) (.rows 3 n (aJ eE (jd ys n (k_+1))) 119 (0,0)) (yF (λ i_ j_ Xc Rj=>(PO (EC (by omega) hl.len) (by omega) (gz (v_:Int)) i_ j_ Xc Rj).trans (by rw[<- WB,ED (by omega) hl.len]))) ?_
     refine SQ (k_+1) [1] [] ?_
     try dsimp only
     refine⟨⟨by omega,λ j_ UX=>?_⟩,by omega⟩
     by_cases ej_:j_=k_
     ·rw[ej_,WB];omega
     ·exact RK j_ (by omega)
    ·refine RN.cp (Lo v_ _ Vb hv2_)<|ae 23 [.own 0,.own 0,.own 0] λ n9=>RN.nt<|RN.ret [] [] [0] (v:=.tuple #[.slice none 0 0,vI 8]) (H':=(ap [] [([]:HL)])) ?_
     exact⟨_,rfl,.inr ⟨⟨k_,by omega,by rw[WB];omega⟩,rfl,rfl⟩⟩
   ·refine ae 13 [] λ _=>ld 0<|RN.ret [] [] [0] (v:=.tuple #[vS (n3+0) 0 n n,vI 0]) (H':=(ap [] [[((n3+0),.rows 3 n (aJ eE (jd ys n k_)) 119 (0,0))]])) ?_
    obtain rfl:k_=n:=by omega
    have hall_:jd ys k_ k_=ys.map gz:=by unfold jd;rw[List.take_of_length_le (by rw[hl.len];exact Nat.le_refl _)];simp
    exact⟨_,rfl,.inl ⟨RK,(n3+0),rfl,by rw[hall_]⟩⟩
theorem Cz{t i p:Nat}(h:i<t):(t-i)*p=(t-(i+1))*p+p:=by
 obtain⟨d,rfl⟩:∃d,t=i+1+d:=⟨t-(i+1),by omega⟩
 rw[show i+1+d-i=d+1 by omega,show i+1+d-(i+1)=d by omega,Nat.succ_mul]
theorem NQ{t i p:Nat}(h:(t-i)*p=0)(hp:1 <= p)(hi:i <= t):i=t:=by
 rcases Nat.mul_eq_zero.1 h with h|h <;> omega
def ta(pl:Nat)(D:List Int)(i:Nat):List Inp:=((D.drop (i*pl)).take pl).map gz
def eI(pl:Nat)(D:List Int)(n:Nat):List (List Inp):=(List.range n).map (ta pl D)
theorem AJ(pl:Nat)(D:List Int)(n:Nat):eI pl D (n+1)=eI pl D n++[ta pl D n]:=by simp[eI,List.range_succ]
theorem lT{pl:Nat}{D:List Int}{i n:Nat}(h:D.length=n*pl)(hi:i<n):(ta pl D i).length=pl:=by
 have:(i+1)*pl <= n*pl:=Nat.mul_le_mul_right _ hi
 rw[Nat.succ_mul] at this
 simp[ta]
 omega
theorem Sp.permH{P:Program}{f:FuncId}{args:Array Value}{H H2 F:HL}{R:Value -> HL -> Prop}(h:Sp P f args H F R)(e:H.Perm H2):Sp P f args H2 F R:=λ w hR=>h w (hR.perm (e.append_right F))
abbrev RX:=Option Addr × Nat × HL
theorem I6(dp tk:Nat)(F:HL):Sp Tryz.prog 55 #[vP dp 0,vI (tk:Int)] (ap [] []) F (λ u H'=>∃m:Nat,H'=ap [((m+1),.lit [vI (tk:Int)] 3 (0,0)),((m+0),.lit [vP dp 0] 123 (0,0))] [] /\ u=.func (.func 84) #[] #[vP (m+0) 0,vP (m+1) 0]):=by
 refine Sp.run Tryz.func55 rfl mn (A:=[]) (Ts:=[]) rfl λ w0=>?_
 refine ae 13 [] λ n1=>RN.ret [] [0,1] [] (v:=.func (.func 84) #[] #[vP (n1+0) 0,vP (n1+1) 0]) (H':=(ap [((n1+1),.lit [vI (tk:Int)] 3 (0,0)),((n1+0),.lit [vP dp 0] 123 (0,0))] [])) ?_
 exact⟨_,rfl,rfl⟩
theorem PP{xs:List Int}(h:∀i,0 <= xs.getD i 0 /\ xs.getD i 0<256)(a b c k:Nat):0 <= (((xs.take a).drop b).take c).getD k 0 /\ (((xs.take a).drop b).take c).getD k 0<256:=by
 rw[List.getD_eq_getElem?_getD,List.getElem?_take]
 split
 ·rw[List.getElem?_drop,List.getElem?_take]
  split
  ·rw[<- List.getD_eq_getElem?_getD];exact h _
  ·exact⟨by decide,by decide⟩
 ·exact⟨by decide,by decide⟩
theorem EE{pl i:Nat}{D:List Int}(h:∀j,j<i*pl -> D.getD j 0<36)(h2:∀j,j<pl -> ((D.drop (i*pl)).take pl).getD j 0<36){j:Nat}(hj:j<(i+1)*pl):D.getD j 0<36:=by
 rw[Nat.succ_mul] at hj
 rcases Nat.lt_or_ge j (i*pl) with h3|h3
 ·exact h j h3
 ·have:=h2 (j-i*pl) (by omega)
  rw[List.getD_eq_getElem?_getD,List.getElem?_take,if_pos (by omega),List.getElem?_drop,show i*pl+(j-i*pl)=j by omega,<- List.getD_eq_getElem?_getD] at this
  exact this
theorem I7{pl i tk:Nat}{D:List Int}(hi:i<tk)(h2:∃j,j<pl /\ ¬ ((D.drop (i*pl)).take pl).getD j 0<36):∃j,j<tk*pl /\ ¬ D.getD j 0<36:=by
 obtain⟨j,hj,h⟩:=h2
 have:(i+1)*pl <= tk*pl:=Nat.mul_le_mul_right _ hi
 rw[Nat.succ_mul] at this
 refine⟨i*pl+j,by omega,λ hc=>h ?_⟩
 rw[List.getD_eq_getElem?_getD,List.getElem?_take,if_pos hj,List.getElem?_drop,<- List.getD_eq_getElem?_getD]
 exact hc
theorem I8(dp q1 q2 n c pl tk:Nat)(A:Option Addr)(xs:List Int)(F:HL)(hl:RowL gS 5 F A n xs)(hm:tk*pl <= n)(hc:n <= c)(IF:1 <= pl /\ pl <= 8)(Wc:tk <= 1000)(WC:∀i,0 <= xs.getD i 0 /\ xs.getD i 0<256)(hI:lS F)(h1:(q1,.lit [vP dp 0] 123 (0,0))∈F)(h2:(q2,.lit [vI (tk:Int)] 3 (0,0))∈F)(lp:Nat)(X:HL)(J:Nat -> HL -> Prop)(Jx:HL -> Prop)(T0:HL)(hY:∀ (i:Nat) (x:RX) H Y,(i<tk /\ SlIs eE 119 (ta pl (xs.take (tk*pl)) i) x.1 x.2.1 x.2.2) -> J i H -> YL Tryz.prog lp #[.slice x.1 pl x.2.1] (H++x.2.2) (Y++(X++F)) (λ b H'=>(b=true /\ J (i+1) H') \/ (b=false /\ Jx H')))(Sx:J 0 T0):Sp Tryz.prog 84 #[.func (.yield lp) #[] #[],vP q1 0,vP q2 0] (ap [(dp,.lit [.slice A n c,vI 0,vI (pl:Int)] 127 (0,0))] [T0]) (X++F) (λ _ H'=>∃x:HL × HL,H'=ap [] [x.1,x.2] /\ ((∃k,J k x.1 /\ ((k=tk /\ (∀j,j<tk*pl -> (xs.take (tk*pl)).getD j 0<36) /\ x.2=[(dp,.lit [.slice (jf A (tk*pl) 1 c) (n-tk*pl) (c-tk*pl),vI 0,vI (pl:Int)] 127 (0,0))]) \/ (k <= tk /\ (∃j,j<tk*pl /\ ¬ (xs.take (tk*pl)).getD j 0<36) /\ x.2=[(dp,.lit [.slice (jf A (tk*pl) 1 c) (n-tk*pl) (c-tk*pl),vI 8,vI (pl:Int)] 127 (0,0))]))) \/ Jx x.1)):=by
 have UA:(xs.take (tk*pl)).length=tk*pl:=by rw[List.length_take,hl.len];omega
 have htp_:tk*pl <= 8000:=Nat.mul_le_mul Wc IF.2
 refine Sp.run Tryz.func84 rfl (mc (List.mem_append_right X h1) (mc (List.mem_append_right X h2) mn)) (A:=[(dp,.lit [.slice A n c,vI 0,vI (pl:Int)] 127 (0,0))]) (Ts:=[T0]) rfl λ w0=>?_
 refine ae 1 [] λ _=>RN.draw [9] []<|qP [] [0,3,4,1,5,2,6,7,8] [.ro 0,.ro 1,.ro 0,.own 0,.nw] [aU ((tk:Int)*(pl:Int))] (ac ⟨by have h_:=Int.natCast_mul tk pl;omega,by have h_:=Int.natCast_mul tk pl;omega⟩ an)<|ja 15 (congrArg (λ v_=>(vI v_:Value)) (Int.natCast_mul tk pl).symm)<|RD.one 9 (RDO.ct [] [0] [] (yM dp n c pl (tk*pl) A _ hm hc) ?_)
 rintro _ ⟨⟩ rfl
 refine ag [] [10] []<|RD.fin<|ae 2 [] λ _=>RN.loop (σ:=Nat × Option Addr × Nat × Nat × HL) (λ ⟨i_,A_,n_,c_,J_⟩=>⟨[(0,.func (.yield lp) #[] #[]),(1,vP q1 0),(4,.slice A_ n_ c_)],[(dp,.lit [.slice (jf A (tk*pl) 1 c) (n-tk*pl) (c-tk*pl),vI 0,vI (pl:Int)] 127 (0,0))],[J_],i_ <= tk /\ n_=(tk-i_)*pl /\ n_ <= c_ /\ RowL gS 5 F A_ n_ ((xs.take (tk*pl)).drop (i_*pl)) /\ (∀j,j<i_*pl -> (xs.take (tk*pl)).getD j 0<36) /\ J i_ J_,tk-i_⟩) (0,A,tk*pl,c,T0) [0] [0] (⟨Nat.zero_le _,by rw[Nat.sub_zero],by omega,by rw[Nat.zero_mul];exact hl.take hm,λ j hj=>by rw[Nat.zero_mul] at hj;exact absurd hj (Nat.not_lt_zero _),Sx⟩) ?_
 rintro⟨i_,A_,n_,c_,J_⟩ ⟨WR,Yn,Ut,RI,RK,Q8⟩ Rx
 refine ae 8 [] λ _=>RN.em ((n_:Int)>0) 19 (λ h3=>?_) λ h3=>?_
 ·have WQ:i_<tk:=by rcases Nat.lt_or_ge i_ tk with h_|h_;exact h_;exfalso;rw[Nat.sub_eq_zero_of_le h_,Nat.zero_mul] at Yn;omega
  have hst_:=Cz (p:=pl) WQ
  have hpn_:pl <= n_:=by omega
  refine ae 6 [] λ _=>RN.draw [] []<|aG [] [0,1,6,2,7,3,8,4,9,5] [.ro 0,.ro 0,.own 0,.own 0,.sl0 pl] [(pl:Int)=((pl:Nat):Int) /\ pl <= c_]<|RD.one 10 (RDO.ct [] (Hp:=[]) (Tp:=[]) [] [] (I5 A_ pl c_ (((xs.take (tk*pl)).drop (i_*pl)).take pl) _ ((RI.take (by omega)).up.up) IF (λ k_=>PP WC _ _ _ _) (aq (List.mem_append_right X hI))) ?_)
  rintro v_ T5 (⟨h6,b4,rfl,rfl⟩|⟨h6,rfl,rfl⟩)
  ·refine ag [] [11,12,13,14,15] []<|RD.fin<|ae 8 [.ro 0] λ _=>RN.cp (qI dp 8 _)<|ae 13 [.ro 0,.own 0] λ _=>kV [1,0]<|mE<|RN.yield 0 (hY i_ (some ⟨b4,0,none⟩,pl,[(b4,.rows 3 pl (aJ eE ((((xs.take (tk*pl)).drop (i_*pl)).take pl).map gz)) 119 (0,0))]) _ _ ⟨by omega,SlIs.whole (lT (n:=tk) UA (by omega))⟩ Q8) ?_
   rintro b_ T7 (⟨rfl,hJ8⟩|⟨rfl,hJ8⟩)
   ·refine ae 14 [.ro 0,.own 0] λ _=>RN.slA (A:=A_) (n:=n_) (cap:=c_) (l:=pl) (sz:=1) rfl (by omega) Ut<|ae 2 [] λ _=>?_
    refine Rx (i_+1,jf A_ pl 1 c_,n_-pl,c_-pl,T7) [0] [0] ?_
    try dsimp only
    have hst_:=Cz (p:=pl) (show i_<tk by omega)
    refine⟨⟨by omega,by omega,by omega,?_,λ j_ UX=>?_,hJ8⟩,by omega⟩
    ·have h_:=RI.drop Ut (k:=pl) (by omega);rw[List.drop_drop,show i_*pl+pl=(i_+1)*pl by rw[Nat.succ_mul]] at h_;exact h_
    ·exact EE RK h6 UX
   ·refine ae 5 [] λ _=>ld 0<|RN.ret [] [] [1,0] (v:=.tuple #[]) (H':=(ap [] [T7,[(dp,.lit [.slice (jf A (tk*pl) 1 c) (n-tk*pl) (c-tk*pl),vI 0,vI (pl:Int)] 127 (0,0))]])) ?_
    exact⟨(T7,[(dp,.lit [.slice (jf A (tk*pl) 1 c) (n-tk*pl) (c-tk*pl),vI 0,vI (pl:Int)] 127 (0,0))]),rfl,.inr hJ8⟩
  ·refine ag [] [11,12,13,14,15] []<|RD.fin<|ae 8 [.ro 0] λ _=>RN.ct [0] [] (Ln dp (n-tk*pl) (c-tk*pl) pl (jf A (tk*pl) 1 c) 8 _) ?_
   rintro _ ⟨⟩ ⟨rfl,rfl⟩
   refine ae 19 [.ro 0,.own 0] λ _=>ld 0<|RN.ret [] [] [2,0] (v:=.tuple #[]) (H':=(ap [] [J_,[(dp,.lit [.slice (jf A (tk*pl) 1 c) (n-tk*pl) (c-tk*pl),vI 8,vI (pl:Int)] 127 (0,0))]])) ?_
   exact⟨(J_,[(dp,.lit [.slice (jf A (tk*pl) 1 c) (n-tk*pl) (c-tk*pl),vI 8,vI (pl:Int)] 127 (0,0))]),rfl,.inl ⟨i_,Q8,.inr ⟨by omega,I7 (by omega) h6,rfl⟩⟩⟩
 ·refine ae 5 [] λ _=>ld 0<|RN.ret [] [] [1,0] (v:=.tuple #[]) (H':=(ap [] [J_,[(dp,.lit [.slice (jf A (tk*pl) 1 c) (n-tk*pl) (c-tk*pl),vI 0,vI (pl:Int)] 127 (0,0))]])) ?_
  have hin_:i_=tk:=NQ (p:=pl) (by omega) IF.1 WR
  exact⟨(J_,[(dp,.lit [.slice (jf A (tk*pl) 1 c) (n-tk*pl) (c-tk*pl),vI 0,vI (pl:Int)] 127 (0,0))]),rfl,.inl ⟨i_,Q8,.inl ⟨hin_,λ j hj=>RK j (by rw[hin_];exact hj),rfl⟩⟩⟩
theorem Lp(dp q1 q2 n c pl tk:Nat)(A:Option Addr)(xs:List Int)(F:HL)(hl:RowL gS 5 F A n xs)(hm:tk*pl <= n)(hc:n <= c)(IF:1 <= pl /\ pl <= 8)(Wc:tk <= 1000)(WC:∀i,0 <= xs.getD i 0 /\ xs.getD i 0<256)(hI:lS F)(h1:(q1,.lit [vP dp 0] 123 (0,0))∈F)(h2:(q2,.lit [vI (tk:Int)] 3 (0,0))∈F):Qa Tryz.prog 84 #[vP q1 0,vP q2 0] [(dp,.lit [.slice A n c,vI 0,vI (pl:Int)] 127 (0,0))] F (λ x:RX=>#[.slice x.1 pl x.2.1]) (λ x:RX=>x.2.2) (λ (i:Nat) (x:RX)=>i<tk /\ SlIs eE 119 (ta pl (xs.take (tk*pl)) i) x.1 x.2.1 x.2.2) (λ k T1=>((k=tk /\ (∀j,j<tk*pl -> (xs.take (tk*pl)).getD j 0<36) /\ T1=[(dp,.lit [.slice (jf A (tk*pl) 1 c) (n-tk*pl) (c-tk*pl),vI 0,vI (pl:Int)] 127 (0,0))]) \/ (k <= tk /\ (∃j,j<tk*pl /\ ¬ (xs.take (tk*pl)).getD j 0<36) /\ T1=[(dp,.lit [.slice (jf A (tk*pl) 1 c) (n-tk*pl) (c-tk*pl),vI 8,vI (pl:Int)] 127 (0,0))]))) (λ _=>True):=by
 intro X l J Jx H0 hY h0
 have e:∀A B:HL,ap [] [A,B]=A++B:=λ A B=>by simp[ap]
 have key:=I8 dp q1 q2 n c pl tk A xs F hl hm hc IF Wc WC hI h1 h2 l X J Jx H0 hY h0
 have e2:(ap [(dp,.lit [.slice A n c,vI 0,vI (pl:Int)] 127 (0,0))] [H0]).Perm (H0++[(dp,.lit [.slice A n c,vI 0,vI (pl:Int)] 127 (0,0))]):=by simp only[ap,List.flatten_cons,List.flatten_nil,List.append_nil];exact List.perm_append_comm
 refine(key.permH e2).mono λ u H' h=>?_
 obtain⟨x,rfl,h⟩:=h
 refine⟨x.1,x.2,e _ _,?_⟩
 rcases h with h|h
 ·exact .inl h
 ·exact .inr ⟨h,trivial⟩
theorem EF(dp q1 q2 n c pl tk:Nat)(A:Option Addr)(xs:List Int)(F:HL)(hl:RowL gS 5 F A n xs)(hm:tk*pl <= n)(hc:n <= c)(IF:1 <= pl /\ pl <= 8)(Wc:tk <= 1000)(WC:∀i,0 <= xs.getD i 0 /\ xs.getD i 0<256)(hI:lS F)(h1:(q1,.lit [vP dp 0] 123 (0,0))∈F)(h2:(q2,.lit [vI (tk:Int)] 3 (0,0))∈F):Sp Tryz.prog 83 #[.slice none 0 0,.func (.func 84) #[] #[vP q1 0,vP q2 0]] (ap [] [[(dp,.lit [.slice A n c,vI 0,vI (pl:Int)] 127 (0,0))]]) F (λ u H'=>∃x:(Nat × Option Addr × Nat × List Rw) × HL × HL × HL,H'=ap [] [x.2.1,x.2.2.1,x.2.2.2] /\ (u=.slice x.1.2.1 x.1.1 x.1.2.2.1 /\ SlIs mP 54 x.1.2.2.2 x.1.2.1 x.1.2.2.1 x.2.1 /\ x.1.2.2.2.length=x.1.1 /\ RwsT x.1.2.2.2 (eI pl (xs.take (tk*pl)) x.1.1) x.2.2.1 /\ ((x.1.1=tk /\ (∀j,j<tk*pl -> (xs.take (tk*pl)).getD j 0<36) /\ x.2.2.2=[(dp,.lit [.slice (jf A (tk*pl) 1 c) (n-tk*pl) (c-tk*pl),vI 0,vI (pl:Int)] 127 (0,0))]) \/ (x.1.1 <= tk /\ (∃j,j<tk*pl /\ ¬ (xs.take (tk*pl)).getD j 0<36) /\ x.2.2.2=[(dp,.lit [.slice (jf A (tk*pl) 1 c) (n-tk*pl) (c-tk*pl),vI 8,vI (pl:Int)] 127 (0,0))])))):=by
 have UA:(xs.take (tk*pl)).length=tk*pl:=by rw[List.length_take,hl.len];omega
 refine Sp.runM Tryz.func83 rfl (mc (h1) (mc (h2) mn)) (A:=[]) (Ts:=[[(dp,.lit [.slice A n c,vI 0,vI (pl:Int)] 127 (0,0))]]) rfl λ w0=>?_
 refine ae 13 [] λ n1=>RN.nt<|RN.nt<|kV [2,0,1]<|Ev (σ:=Nat × List Rw × Option Addr × Nat × HL × HL) (τ:=Nat × List Rw × Option Addr × Nat × HL × HL × RX × HL) (encs:=λ (x_:RX)=>#[.slice x_.1 pl x_.2.1]) (blks:=λ (x_:RX)=>x_.2.2) (enters_of Tryz.func84 (by kernel_rfl) rfl) (λ ⟨m_,rs_,A_,c_,E_,T_⟩=>([((n1+0),.lit [.slice A_ m_ c_] 35 (0,0))],[E_,T_])) (λ i_ ⟨m_,rs_,A_,c_,E_,T_⟩=>m_=i_ /\ rs_.length=m_ /\ SlIs mP 54 rs_ A_ c_ E_ /\ RwsT rs_ (eI pl (xs.take (tk*pl)) m_) T_ /\ m_ <= tk) (λ c_ ⟨m_,rs_,A_,c_,E_,T_⟩=>False) (λ ⟨m_,rs_,A_,c_,E_,T_,y_,Te_⟩=>⟨[(2,vP (n1+0) 0),(5,.slice y_.1 pl y_.2.1)],[((n1+0),.lit [.slice A_ m_ c_] 35 (0,0))],[E_,T_,Te_],True,0⟩) (λ i_ x_ ⟨m_,rs_,A_,c_,E_,T_,y_,Te_⟩=>m_=i_ /\ (rs_.length=m_ /\ SlIs mP 54 rs_ A_ c_ E_ /\ RwsT rs_ (eI pl (xs.take (tk*pl)) m_) T_ /\ m_ <= tk) /\ y_=x_ /\ Te_=x_.2.2) (0,[],none,0,[],[]) (⟨rfl,rfl,SlIs.nil _ _,RwsT.nil,Nat.zero_le _⟩) [0] [1,2] ([(dp,.lit [.slice A n c,vI 0,vI (pl:Int)] 127 (0,0))]) (Lp dp q1 q2 n c pl tk A xs _ (hl.mono λ x hx=>aq hx) hm hc IF Wc WC (aq hI) (aq h1) (aq h2)) ?_ ?_ ?_ ?_
 ·rintro l_ i_ x_ ⟨m_,rs_,A_,c_,E_,T_⟩ Y2 w3 hx4 ⟨rfl,Q3,IS,SW,Yo⟩ SQ
  refine ae 3 [] λ _=>?_
  refine SQ (m_,rs_,A_,c_,E_,T_,x_,x_.2.2) [0] [0,1,2] ?_
  try dsimp only
  exact⟨rfl,⟨Q3,IS,SW,Yo⟩,rfl,rfl⟩
 ·rintro l_ i_ x_ ⟨m_,rs_,A_,c_,E_,T_,y_,Te_⟩ Y6 w7 WC ⟨rfl,⟨Q3,IS,SW,Yo⟩,Xd,eT_⟩
  subst Xd
  obtain⟨WQ,Z8⟩:=WC
  rw[<- eT_] at Z8
  refine ae 5 [.own 0] λ n9=>fR Ce rs_ [(⟨y_.1,pl,y_.2.1⟩:Rw)] 0 0 Q3.symm IS (by simp;omega) ?_
  rintro A10 c11 Xi ⟨hs13,hz14⟩
  refine ae 3 [.own 1] λ _=>kV [1,2,0]<|mE<|RN.rn (m_+1,rs_++[(⟨y_.1,pl,y_.2.1⟩:Rw)],A10,c11,Xi,T_++Te_) [1] [1,0] ?_
  try dsimp only
  refine⟨rfl,by simp;omega,hs13,?_,by omega⟩
  rw[AJ]
  exact SW.snoc Z8 (by rw[lT UA WQ];omega) (lT UA WQ).symm
 ·rintro d15 ⟨m_,rs_,A_,c_,E_,T_⟩ n18 TF ⟨rfl,Q3,IS,SW,Yo⟩ hT17
  refine ae 8 [.own 1] λ _=>RN.retM [d15] [0] [] [] [0,1,2] (v:=.slice A_ m_ c_) (H':=(ap [] [E_,T_,TF])) ?_
  exact⟨((m_,A_,c_,rs_),E_,T_,TF),rfl,rfl,IS,Q3,SW,hT17⟩
 ·exact λ _ _ _ _ h _=>h.elim
theorem I9(dp q1 q2 n c pl tk:Nat)(A:Option Addr)(xs:List Int)(F:HL)(hl:RowL gS 5 F A n xs)(hm:tk*pl <= n)(hc:n <= c)(IF:1 <= pl /\ pl <= 8)(Wc:tk <= 1000)(WC:∀i,0 <= xs.getD i 0 /\ xs.getD i 0<256)(hI:lS F)(h1:(q1,.lit [vP dp 0] 123 (0,0))∈F)(h2:(q2,.lit [vI (tk:Int)] 3 (0,0))∈F):Sp Tryz.prog 54 #[.func (.func 84) #[] #[vP q1 0,vP q2 0]] (ap [] [[(dp,.lit [.slice A n c,vI 0,vI (pl:Int)] 127 (0,0))]]) F (λ u H'=>∃x:(Nat × Option Addr × Nat × List Rw) × HL × HL × HL,H'=ap [] [x.2.1,x.2.2.1,x.2.2.2] /\ (u=.slice x.1.2.1 x.1.1 x.1.2.2.1 /\ SlIs mP 54 x.1.2.2.2 x.1.2.1 x.1.2.2.1 x.2.1 /\ x.1.2.2.2.length=x.1.1 /\ RwsT x.1.2.2.2 (eI pl (xs.take (tk*pl)) x.1.1) x.2.2.1 /\ ((x.1.1=tk /\ (∀j,j<tk*pl -> (xs.take (tk*pl)).getD j 0<36) /\ x.2.2.2=[(dp,.lit [.slice (jf A (tk*pl) 1 c) (n-tk*pl) (c-tk*pl),vI 0,vI (pl:Int)] 127 (0,0))]) \/ (x.1.1 <= tk /\ (∃j,j<tk*pl /\ ¬ (xs.take (tk*pl)).getD j 0<36) /\ x.2.2.2=[(dp,.lit [.slice (jf A (tk*pl) 1 c) (n-tk*pl) (c-tk*pl),vI 8,vI (pl:Int)] 127 (0,0))])))):=by
 refine Sp.run Tryz.func54 rfl mn (A:=[]) (Ts:=[[(dp,.lit [.slice A n c,vI 0,vI (pl:Int)] 127 (0,0))]]) rfl λ w0=>?_
 refine ae 8 [] λ _=>RN.ct [] [0] (EF dp q1 q2 n c pl tk A xs _ (hl.mono λ x hx=>aq hx) hm hc IF Wc WC (aq hI) (aq h1) (aq h2)) ?_
 rintro _ ⟨⟨m_,A_,c_,rs_⟩,E_,T_,O_⟩ ⟨rfl,Xs⟩
 refine ae 3 [] λ _=>RN.ret [] [] [0,1,2] (v:=.slice A_ m_ c_) (H':=(ap [] [E_,T_,O_])) ?_
 exact⟨((m_,A_,c_,rs_),E_,T_,O_),rfl,rfl,Xs⟩
end Go.Proofs.YtgdcbiiopbpgaaaGreatDoor
