import Derived.Test.YtgdcbiiopbpgaaaGreatDoorY45
set_option maxHeartbeats 4000000
set_option maxRecDepth 100000
set_option linter.unusedSimpArgs false
set_option linter.unusedVariables false
namespace Go.Proofs.YtgdcbiiopbpgaaaGreatDoor
open Go.RowKit
theorem SetEq.val {S S':Setup} (h:SetEq S S') (rs:List Bx) (ds:List Dr):gU S' rs ds=gU S rs ds:=by
 obtain ⟨e1,e2,e3,e4,e5,e6,e7,e8,e9,e10,e11,e12⟩:=h.nums
 have c1:(∀ k,k < S'.nb -> jV (S'.body k).sh) ↔ (∀ k,k < S.nb -> jV (S.body k).sh):=by
  rw [e2]
  refine forall_congr' λ k=>forall_congr' λ hk=>?_
  obtain ⟨A,c,e⟩:=h.bod k hk
  rw [e];exact Iff.rfl
 have c2:rS S' rs ds ↔ rS S rs ds:=by unfold rS i9 kR;rw [e1,e2,e3,e4,e5,e6,e7,e8,e9,e10,e11,e12]
 have c3:(∀ k,k < S'.nb -> fg (S'.body k) S'.box) ↔ (∀ k,k < S.nb -> fg (S.body k) S.box):=by
  rw [e2,e3]
  refine forall_congr' λ k=>forall_congr' λ hk=>?_
  obtain ⟨A,c,e⟩:=h.bod k hk
  rw [e];exact Iff.rfl
 simp only [gU,c1,c2,c3]
theorem SetEq.trans2 {S S1 S2:Setup} (h:SetEq S S1) (h2:SetEq S1 S2):SetEq S S2:=by
 obtain ⟨e1,e2,e3,e4,e5,e6,e7,e8,e9,e10,e11,e12⟩:=h.nums
 obtain ⟨f1,f2,f3,f4,f5,f6,f7,f8,f9,f10,f11,f12⟩:=h2.nums
 refine ⟨⟨f1.trans e1,f2.trans e2,f3.trans e3,f4.trans e4,f5.trans e5,f6.trans e6,f7.trans e7,f8.trans e8,f9.trans e9,f10.trans e10,f11.trans e11,f12.trans e12⟩,λ k hk=>?_,h2.whole.1,by rw [h2.whole.2];exact e2⟩
 obtain ⟨A,c,e⟩:=h.bod k hk
 obtain ⟨A2,c2,e2'⟩:=h2.bod k (by rw [e2];exact hk)
 exact ⟨A2,c2,by rw [e2',e];rfl⟩
theorem lG (cs:List Int) (M:MemS):∀ i,(kz cs M i).base=M.base
 | 0=>rfl
 | i+1=>by
  rw [kz]
  split
  ·exact lG cs M i
  ·unfold MemS.set
   split
   ·exact lG cs M i
   ·exact lG cs M i
section
variable {S S1:Setup} {rs_:List Bx} {ds_:List Dr} {bp gb mb n cap k t:Nat} {M:MemS} {G0 F:HL}
theorem xi {q:Nat} {M1:MemS} (hG:GameX rs_ ds_ bp gb mb S1 M (k+n) G0) (hq:(q,.rows 1 M1.cs.length (aK M1.cs) 3 (0,0)) ∈ F) (hn:M1.cs.length=n) (hl:M.cs.length=n) (h48:48 <= n) (hT:TE2 S1 (t:Int) M1) (ht:t <= 6000) :
  Sp Tryz.prog 35 #[vP gb 0,vS q 0 M1.cs.length cap] (ap [] [G0]) F (λ u H'=>∃ x:MemS × HL,H'=ap [] [x.2] /\ (u=vI 0 /\ x.1.cs=M1.cs /\ x.1.base=M.base /\ GameX rs_ ds_ bp gb mb S1 x.1 k x.2)):=by
 have hg:∀ i:Nat,i < n -> M1.get (i:Int)=M1.cs.getD i 0:=λ i hi=>by
  unfold MemS.get
  rw [if_pos (by omega),Int.toNat_natCast]
 have hz:∀ i:Nat,1 <= i -> i <= 10 -> M1.cs.getD i 0=0:=λ i ha hb=>by rw [<- hg i (by omega)];exact hT.z _ (by omega) (by omega)
 have h0:M1.cs.getD 0 0=(t:Int):=by rw [<- hg 0 (by omega)];exact hT.t0
 have hb:fE M1.cs:=⟨⟨hz 1 (by omega) (by omega),hz 2 (by omega) (by omega),hz 3 (by omega) (by omega),hz 4 (by omega) (by omega),hz 5 (by omega) (by omega),hz 6 (by omega) (by omega),hz 7 (by omega) (by omega),hz 8 (by omega) (by omega),hz 9 (by omega) (by omega),hz 10 (by omega) (by omega)⟩,by omega,by omega⟩
 have hk:k+n=k+M1.cs.length:=by omega
 rw [hk] at hG
 cases hG with
 | mk T U hM hU =>
  rw [bC]
  refine (wc S1 bp gb mb M1.cs q M1.cs.length M1.cs.length cap M k T U F hM hq (Nat.le_refl _) (by omega)).mono λ u H' h=>?_
  obtain ⟨x,rfl,h⟩:=h
  rcases h with ⟨_,h3,h4⟩ | ⟨h3,_⟩
  ·refine ⟨(kz M1.cs M M1.cs.length,ap [(gb,.lit (dT S1 bp mb) 140 (0,0))] [x,U]),(bC _).symm,h3,?_,lG _ _ _,.mk x U h4 hU⟩
   show (kz M1.cs M M1.cs.length).cs=M1.cs
   rw [ET (by omega) (Nat.le_refl _),List.take_length]
  ·exact absurd ⟨by omega,hb⟩ h3
end
abbrev Ny (x:Rw):Array Value:=#[.slice x.A x.n x.c]
def GP (rl:List Rw) (f l:Nat):List Rw:=(List.range (l - f)).map λ i=>rl.getD (f+i) mJ.dflt
theorem lH (rl:List Rw) (f l:Nat):(GP rl f l).length=l - f:=by simp [GP]
theorem AU {rl:List Rw} {f l i:Nat} (h:i < l - f):(GP rl f l)[i]?=some (rl.getD (f+i) mJ.dflt):=by simp [GP,h]
theorem oL {rl:List Rw} {f l i:Nat} {x:Rw} (e:(GP rl f l)[i]?=some x):i < l - f /\ x=rl.getD (f+i) mJ.dflt:=by
 have h1:i < l - f:=by have:=(List.getElem?_eq_some_iff.1 e).1;rwa [lH] at this
 rw [AU h1] at e
 exact ⟨h1,(Option.some.inj e).symm⟩
theorem GQ (S3:Setup) (bp ev gb0 rp n rc cc f l q1 q2 q3 lp:Nat) (rA cA:Option Addr) (rl:List Rw) (cl:List Ck) (X F:HL) (J:Nat -> HL -> Prop) (Jx:HL -> Prop) (T0:HL) (hq1:(q1,.lit [vI (f:Int)] 3 (0,0)) ∈ F) (hq2:(q2,.lit [vI (l:Int)] 3 (0,0)) ∈ F) (hq3:(q3,.lit [vP rp 0] 38 (0,0)) ∈ F) (hrp:(rp,.lit (Setup.l S3++[vP bp 0,vI (ev:Int),vP gb0 0,.slice rA n rc,.slice cA cl.length cc]) 86 (0,0)) ∈ F) (hr:RowL mJ 54 F rA n rl) (hfl:f <= l /\ l <= n /\ n <= 1000000) (hY:∀ i x H Y,(GP rl f l)[i]?=some x -> J i H -> YL Tryz.prog lp (Ny x) H (Y++(X++F)) (λ b H'=>(b=true /\ J (i+1) H') \/ (b=false /\ Jx H'))) (hJ0:J 0 T0):Sp Tryz.prog 69 #[.func (.yield lp) #[] #[],vP q1 0,vP q2 0,vP q3 0] (ap [] [T0]) (X++F) (λ _ H'=>J (GP rl f l).length H' \/ Jx H'):=by
 refine Sp.run Tryz.func69 rfl (mc (List.mem_append_right _ hq1) (mc (List.mem_append_right _ hq2) (mc (List.mem_append_right _ hq3) (mc (List.mem_append_right _ hrp) mn)))) (A:=[]) (Ts:=[T0]) rfl λ w0=>?_
 refine ae 7 [.ro 0] λ _=>aJ 5 (congrArg (λ v_=>(vI v_:Value)) (show (f:Int)=((f+0:Nat):Int) by omega))<|RN.loop (σ:=Nat × HL) (λ ⟨i,T_⟩=>⟨[(0,.func (.yield lp) #[] #[]),(2,vP q2 0),(3,vP q3 0),(5,vI ((f+i:Nat):Int))],[],[T_],i <= l - f /\ J i T_,l - f - i⟩) (0,T0) [] [0] (⟨Nat.zero_le _,hJ0⟩) ?_
 rintro ⟨i,T_⟩ ⟨hi_,hJ_⟩ mt2
 refine ae 8 [.ro 1] λ _=>RN.em (((f+i:Nat):Int) < (l:Int)) 9 (λ h3=>?_) λ h3=>?_
 ·refine ae 13 [.ro 2,.ro 3] λ _=>?_
  obtain ⟨qx4,ox4,Nx4,fx4,fzx4,hAx4,hqx4,hox4,hgx4⟩:=(hr.up (X:=X)).at (k:=(f+i)) (by omega)
  refine aJ 16 (congrArg (λ v_=>(.slice v_ n rc:Value)) hAx4)<|RN.ro (λ _=>(mc (List.mem_append_right _ hq1) (mc (List.mem_append_right _ hq2) (mc (List.mem_append_right _ hq3) (mc (List.mem_append_right _ hrp) (mc hqx4 mn))))))<|ai 2 [.ix (f+i),.rorow 4 (ox4+(f+i)) 0] [(ox4 * 1+(f+i) * 1)=(ox4+(f+i)) * 1+0 /\ (ox4+(f+i)) < Nx4,((f+i:Nat):Int)=(((f+i):Nat):Int) /\ (f+i) < n] λ _=>aJ 19 (congrArg (λ v_=>(.slice v_.A v_.n v_.c:Value)) hgx4)<|RN.yield 0 (hY i (rl.getD (f+i) mJ.dflt) _ _ (AU (by omega)) hJ_) ?_
  rintro b_ T5 (⟨rfl,hJ6⟩ | ⟨rfl,hJ6⟩)
  ·refine ai 12 [.gen,.nw] [bd (((f+i:Nat):Int)+1)] λ _=>aJ 5 (congrArg (λ v_=>(vI v_:Value)) (show ((f+i:Nat):Int)+1=((f+(i+1):Nat):Int) by omega)) ?_
   refine mt2 (i+1,T5) [] [0] ?_
   try dsimp only
   exact ⟨⟨by omega,hJ6⟩,by omega⟩
  ·refine ae 4 [] λ _=>RN.ret [] [] [0] (v:=.tuple #[]) (H':=(ap [] [T5])) ?_
   rw [bC]
   exact .inr hJ6
 ·refine ae 5 [] λ _=>RN.ret [] [] [0] (v:=.tuple #[]) (H':=(ap [] [T_])) ?_
  rw [bC]
  obtain rfl:i=l - f:=by omega
  exact .inl (by rw [lH];exact hJ_)
theorem uC (S3:Setup) (bp ev gb0 rp n rc cc f l q1 q2 q3:Nat) (rA cA:Option Addr) (rl:List Rw) (cl:List Ck) (F:HL) (hq1:(q1,.lit [vI (f:Int)] 3 (0,0)) ∈ F) (hq2:(q2,.lit [vI (l:Int)] 3 (0,0)) ∈ F) (hq3:(q3,.lit [vP rp 0] 38 (0,0)) ∈ F) (hrp:(rp,.lit (Setup.l S3++[vP bp 0,vI (ev:Int),vP gb0 0,.slice rA n rc,.slice cA cl.length cc]) 86 (0,0)) ∈ F) (hr:RowL mJ 54 F rA n rl) (hfl:f <= l /\ l <= n /\ n <= 1000000):It Tryz.prog 69 #[vP q1 0,vP q2 0,vP q3 0] F Ny (GP rl f l):=by
 intro X lp J Jx H0 hY h0
 have key:=GQ S3 bp ev gb0 rp n rc cc f l q1 q2 q3 lp rA cA rl cl X F J Jx H0 hq1 hq2 hq3 hrp hr hfl hY h0
 rw [bC] at key
 exact key
theorem GR (f l:Int) (rp:Nat) (F:HL):Sp Tryz.prog 36 #[vP rp 0,vI f,vI l] [] F (λ u H'=>∃ m:Nat,H'=ap [((m+2),.lit [vI l] 3 (0,0)),((m+1),.lit [vI f] 3 (0,0)),((m+0),.lit [vP rp 0] 38 (0,0))] [] /\ u=.func (.func 69) #[] #[vP (m+1) 0,vP (m+2) 0,vP (m+0) 0]):=by
 refine Sp.run Tryz.func36 rfl mn (A:=[]) (Ts:=[]) rfl λ w0=>?_
 refine ae 14 [] λ n1=>RN.ret [] [0,1,2] [] (v:=.func (.func 69) #[] #[vP (n1+1) 0,vP (n1+2) 0,vP (n1+0) 0]) (H':=(ap [((n1+2),.lit [vI l] 3 (0,0)),((n1+1),.lit [vI f] 3 (0,0)),((n1+0),.lit [vP rp 0] 38 (0,0))] [])) ?_
 exact ⟨_,rfl,rfl⟩
theorem uD (f l:Int) (rp:Nat) (F:HL):Sp Tryz.prog 36 #[vP rp 0,vI f,vI l] (ap [] []) F (λ u H'=>∃ m:Nat,H'=ap [((m+2),.lit [vI l] 3 (0,0)),((m+1),.lit [vI f] 3 (0,0)),((m+0),.lit [vP rp 0] 38 (0,0))] [] /\ u=.func (.func 69) #[] #[vP (m+1) 0,vP (m+2) 0,vP (m+0) 0]):=GR f l rp F
theorem GS (S S3:Setup) (rs_:List Bx) (ds_:List Dr) (bp ev gb0 rp n rc cc t:Nat) (J:Nat -> Nat × Int) (rA cA:Option Addr) (rl:List Rw) (cl:List Ck) (xss:List (List Inp)) (F:HL) (hrp:(rp,.lit (Setup.l S3++[vP bp 0,vI (ev:Int),vP gb0 0,.slice rA n rc,.slice cA cl.length cc]) 86 (0,0)) ∈ F) (h3e:SetEq S S3) (hS3:SetIn F S3) (hM:MapIn F S3 rs_ ds_) (hV:SetV S) (hrn:S.rn <= 1000000) (hdn:S.dn <= 1000000) (hsz:48 <= sizeOf S /\ sizeOf S <= 1000) (hv:gU S rs_ ds_=0) (hr:RowL mJ 54 F rA n rl) (hw:RwsIn F rl xss) (hc:RowL r6 88 F cA cl.length cl) (hck:∀ k,k < cl.length -> ∃ q,cl.getD k r6.dflt=⟨some ⟨q,0,none⟩,(WS S J xss (k * ev)).length,(WS S J xss (k * ev)).length,fN (WS S J xss (k * ev))⟩ /\ (q,.rows 1 (WS S J xss (k * ev)).length (aK (WS S J xss (k * ev))) 3 (0,0)) ∈ F) (hcl:cl.length=n / ev+1) (hev:1 <= ev /\ ev <= 60) (hE:dh F) (hn50:n <= 50) (hrow:∀ i,i < n -> iK S.players (xss.getD i [])) (hAt:∀ i,i < n -> (J i).1 < 5 /\ AtOk F bp (i:Int) (J i)) (ht:t <= n):Sp Tryz.prog 13 #[vP rp 0,vI (t:Int)] [] F (λ u H'=>∃ q:Nat,H'=ap [(q,.rows 1 (WS S J xss t).length (aK (WS S J xss t)) 3 (0,0))] [] /\ u=.tuple #[vS q 0 (WS S J xss t).length (WS S J xss t).length,vI ((t:Int) % (ev:Int)),vI 0]):=by
 have hm_:(t:Int) % (ev:Int)=((t % ev:Nat):Int):=by first | rfl | norm_cast
 have hdm_:t / ev * ev+t % ev=t:=by rw [Nat.mul_comm];exact Nat.div_add_mod t ev
 have hdl_:t / ev < cl.length:=by rw [hcl];exact Nat.lt_succ_of_le (Nat.div_le_div_right ht)
 have hq_:(t:Int) / (ev:Int)=((t / ev:Nat):Int):=by first | rfl | norm_cast
 obtain ⟨d,hd⟩:∃ d,t / ev=d:=⟨_,rfl⟩
 rw [hd] at hdm_ hdl_ hq_
 obtain ⟨f,hf⟩:∃ f,d * ev=f:=⟨_,rfl⟩
 rw [hf] at hdm_
 have hwl_:=uB (J:=J) hV (uz S) hn50 hrow (i:=f) (by omega)
 refine Sp.runM Tryz.func13 rfl (mc hrp mn) (A:=[]) (Ts:=[]) rfl λ w0=>?_
 refine ae 13 [] λ n1=>RN.em ((t:Int) < 0) 15 (λ h2=>?_) λ h2=>?_
 ·(exfalso;omega)
 ·refine ae 10 [.ro 0] λ _=>RN.em ((t:Int) > (n:Int)) 23 (λ h3=>?_) λ h3=>?_
  ·(exfalso;omega)
  ·refine ae 4 [] λ _=>RN.draw [13] []<|ag [] [0,4,1,5,2,6,3,7] [.ro 0,.ro 0,.ro 0,.ro 0,.ro 0,.ro 0,.ro 0,.ro 0,.ro 0,.ro 0,.ro 0,.ro 0,.ro 0,.ro 0,.ro 0,.ro 0,.ro 0]<|fH 8 12 ?_ ?_
   ·refine RDO.ct [] (Hp:=[]) (Tp:=[]) [] [] (qA S3 rs_ ds_ bp _ hS3.up.cl hM.up (by rw [h3e.nb];have:=hV.nb;omega) (by rw [h3e.nums.2.2.2.1];exact hrn) (by rw [h3e.nums.2.2.2.2.1];exact hdn) (by rw [h3e.size];omega) (by rw [h3e.val];exact hv) 99100000 (by decide)) ?_
    rintro _ ⟨g4,S5,T6⟩ ⟨rfl,he7,hG8⟩
    dsimp only at he7 hG8
    obtain ⟨mb_,hx_⟩:=hG8.x
    have he2_:=h3e.trans2 he7
    refine ag [] [9,10,11] []<|RD.one 12 (RDO.ev [] [] λ n9=>?_)
    refine RD.one 13 (RDO.ev [] [.own 0] λ _=>?_)
    refine ag [] [14] []<|RD.fin<|ae 13 [] λ _=>RN.draw [14] []<|aH [] [0,1,5,6,2,7,3,8,4,9,10] [.own 0,.ro 0,.ro 0,.nw] [0 <= (t:Int) /\ (0:Int) < (ev:Int) /\ (t:Int) <= 9223372036854775807] ?_
    obtain ⟨qx10,ox10,Nx10,fx10,fzx10,hAx10,hqx10,hox10,hgx10⟩:=hc.at (k:=d) hdl_
    refine kZ 43 (congrArg (λ v_=>(.slice v_ cl.length cc:Value)) hAx10)<|RD.ro (λ _=>(mc hrp (mc hqx10 mn)))<|tN [] [11,12,13] [.ix d,.rorow 1 (ox10+d) 0] [(ox10 * 2+d * 2)=(ox10+d) * 2+0 /\ (ox10+d) < Nx10,(t:Int) / (ev:Int)=((d:Nat):Int) /\ d < cl.length] (ac ⟨by omega,by omega⟩ (ac ⟨hq_,hdl_⟩ an))<|kZ 52 (congrArg (λ v_=>(.slice v_.A v_.n v_.c:Value)) hgx10) ?_
    obtain ⟨qk,ek_,hqk⟩:=hck d hdl_
    rw [hf] at ek_ hqk
    refine kZ 52 (congrArg (λ v_:Ck=>Value.slice v_.A v_.n v_.c) ek_)<|RD.ro (λ _=>(mc hrp (mc hqx10 (mc hqk mn))))<|RD.one 14 (RDO.ct [] [] [0] (xi (cap:=(WS S J xss f).length) (k:=99020000) (n:=(sizeOf S).toNat) (q:=qk) (t:=f) (M1:=(⟨(WS S J xss f),[],0⟩:MemS)) (hx_.weak (by omega)) (aw hqk) (by show (WS S J xss f).length=_;omega) (by show (eo S3 S3.nb).length=_;rw [gw,h3e.size]) (by omega) (tC hV he2_ hn50 hrow (by omega)) (by omega)) ?_)
    rintro _ ⟨M11,T12⟩ ⟨rfl,he13,hb14,hG15⟩
    dsimp only at he13 hb14 hG15
    refine ag [] [15] []<|RD.fin<|ai 29 [.ro 0,.nw,.nw] [bd ((t:Int) - ((t:Int) % (ev:Int))),0 <= (t:Int) /\ (0:Int) < (ev:Int) /\ (t:Int) <= 9223372036854775807] λ _=>aJ 66 (congrArg (λ v_=>(vI v_:Value)) (show (t:Int) - (t:Int) % (ev:Int)=(f:Int) by rw [hm_];omega))<|RN.ct (Hp:=[]) (Tp:=[]) [] [] (uD (f:Int) (t:Int) rp _) ?_
    rintro _ m16 rfl
    refine ae 3 [] λ _=>RN.range (σ:=Nat × MemS × HL) (τ:=Nat × MemS × HL × Rw) (encs:=λ (x_:Rw)=>#[.slice x_.A x_.n x_.c]) (xs:=(GP rl f t)) (enters_of Tryz.func69 (by kernel_rfl) rfl) (λ ⟨m_,N_,T_⟩=>([],[T_])) (λ i_ ⟨m_,N_,T_⟩=>m_=i_ /\ N_.cs=(⟨WS S J xss (f+m_),[],0⟩:MemS).cs /\ (0 <= N_.base /\ N_.base <= 1000000 * (m_:Int)) /\ GameX rs_ ds_ bp g4 mb_ S5 N_ 99020000 T_) (λ c_ ⟨m_,N_,T_⟩=>False) (λ ⟨m_,N_,T_,p_⟩=>⟨[(4,vP (n1+0) 0),(5,vP (n1+1) 0),(6,vP (n1+2) 0),(7,vP (n9+0) 0),(10,vI ((t:Int) % (ev:Int))),(11,.slice p_.A p_.n p_.c)],[],[T_],True,0⟩) (λ i_ x_ ⟨m_,N_,T_,p_⟩=>m_=i_ /\ p_=rl.getD (f+m_) mJ.dflt /\ m_ < t - f /\ N_.cs=(⟨WS S J xss (f+m_),[],0⟩:MemS).cs /\ (0 <= N_.base /\ N_.base <= 1000000 * (m_:Int)) /\ GameX rs_ ds_ bp g4 mb_ S5 N_ 99020000 T_) (0,M11,T12) (⟨rfl,he13,⟨by rw [hb14];exact Int.le_refl 0,by rw [hb14];exact Int.le_refl 0⟩,hG15⟩) [] [0] (uC S3 bp ev gb0 rp n rc cc f t (m16+1) (m16+2) (m16+0) rA cA rl cl _ (aB 1) (aB 0) (aB 2) (aw hrp) hr.up ⟨by omega,ht,by omega⟩) ?_ ?_ ?_ ?_
    ·rintro l_ i_ x_ ⟨m_,N_,T_⟩ Y17 w18 hx19 ⟨rfl,hcs_,hb_,hg_⟩ mt20
     refine ae 3 [] λ _=>?_
     refine mt20 (m_,N_,T_,x_) [] [0] ?_
     try dsimp only
     exact ⟨rfl,(oL hx19).2,(oL hx19).1,hcs_,hb_,hg_⟩
    ·rintro l_ i_ x_ ⟨m_,N_,T_,p_⟩ Y21 w22 hx23 ⟨rfl,hp_,hlt_,hcs_,hb_,hg_⟩
     obtain ⟨bk,ok,Nk,fk,ck,ek2_,hIk,hik,hxk,hck2_⟩:=hw.get (k:=f+m_) (by rw [hr.len];omega)
     refine aJ 11 (congrArg (λ v_:Rw=>Value.slice v_.A v_.n v_.c) (hp_.trans ek2_))<|ae 5 [.ro 3] λ _=>RN.ct [] [0] (oK (c:=ck) (j:=J (f+m_)) hg_ (by omega) (hAt (f+m_) (by omega)).1 (by rw [rf hcs_,(tC hV he2_ hn50 hrow (i:=f+m_) (by omega)).t0];exact (hAt (f+m_) (by omega)).2.mono λ x hx=>aw (List.mem_append_right Y21 (List.mem_append_right _ hx))) (aw (List.mem_append_right Y21 (List.mem_append_right _ hE))) (aw (List.mem_append_right Y21 (List.mem_append_right _ hIk))) hik (by have h_:=(hrow (f+m_) (by omega)).1;have h2_:=hV.pl;omega) hxk ((GL hV he2_ hn50 hrow (by omega)).cs hcs_.symm)) ?_
     rintro _ ⟨M24,T25⟩ ⟨rfl,hG26,he27,hb28⟩
     dsimp only at hG26 he27 hb28
     refine ae 12 [] λ _=>RN.rn (m_+1,M24,T25) [] [0] ?_
     try dsimp only
     exact ⟨rfl,he27.trans ((qh _ hcs_).trans (uA he2_ (f+m_)).symm),⟨hb28.1,by omega⟩,hG26⟩
    ·rintro d29 ⟨m_,N_,T_⟩  ⟨rfl,hcs_,hb_,hg_⟩
     refine ae 5 [.own 4] λ _=>aj (AR hg_ (aA 0))<|RN.ct (Hp:=[]) (Tp:=[]) [] [] (zd hg_ (aA 0)) ?_
     rintro _ q30 rfl
     refine ae 6 [.own 8,.own 7,.own 6] λ _=>RN.retM [d29] [1] [.own 7,.own 6,.own 5] [0] [] (v:=.tuple #[vS q30 0 N_.cs.length N_.cs.length,vI ((t:Int) % (ev:Int)),vI 0]) (H':=(ap [(q30,.rows 1 N_.cs.length (aK N_.cs) 3 (0,0))] [])) ?_
     have hct_:N_.cs=WS S J xss t:=by rw [hcs_,lH,show f+(t - f)=t by omega]
     exact ⟨q30,by rw [hct_],by rw [hct_]⟩
    ·exact λ _ _ _ h=>h.elim
   ·refine RDO.ev [] [] λ n31=>RD.one 8 (RDO.ct [] (Hp:=[]) (Tp:=[]) [] [] (qA S3 rs_ ds_ bp _ hS3.up.cl hM.up (by rw [h3e.nb];have:=hV.nb;omega) (by rw [h3e.nums.2.2.2.1];exact hrn) (by rw [h3e.nums.2.2.2.2.1];exact hdn) (by rw [h3e.size];omega) (by rw [h3e.val];exact hv) 99100000 (by decide)) ?_)
    rintro _ ⟨g32,S33,T34⟩ ⟨rfl,he35,hG36⟩
    dsimp only at he35 hG36
    obtain ⟨mb_,hx_⟩:=hG36.x
    have he2_:=h3e.trans2 he35
    refine ag [] [9,10,11] []<|RD.one 13 (RDO.ev [] [.own 0] λ _=>?_)
    refine ag [] [14] []<|RD.fin<|ae 13 [] λ _=>RN.draw [14] []<|aH [] [0,1,5,6,2,7,3,8,4,9,10] [.own 0,.ro 0,.ro 0,.nw] [0 <= (t:Int) /\ (0:Int) < (ev:Int) /\ (t:Int) <= 9223372036854775807] ?_
    obtain ⟨qx37,ox37,Nx37,fx37,fzx37,hAx37,hqx37,hox37,hgx37⟩:=hc.at (k:=d) hdl_
    refine kZ 43 (congrArg (λ v_=>(.slice v_ cl.length cc:Value)) hAx37)<|RD.ro (λ _=>(mc hrp (mc hqx37 mn)))<|tN [] [11,12,13] [.ix d,.rorow 1 (ox37+d) 0] [(ox37 * 2+d * 2)=(ox37+d) * 2+0 /\ (ox37+d) < Nx37,(t:Int) / (ev:Int)=((d:Nat):Int) /\ d < cl.length] (ac ⟨by omega,by omega⟩ (ac ⟨hq_,hdl_⟩ an))<|kZ 52 (congrArg (λ v_=>(.slice v_.A v_.n v_.c:Value)) hgx37) ?_
    obtain ⟨qk,ek_,hqk⟩:=hck d hdl_
    rw [hf] at ek_ hqk
    refine kZ 52 (congrArg (λ v_:Ck=>Value.slice v_.A v_.n v_.c) ek_)<|RD.ro (λ _=>(mc hrp (mc hqx37 (mc hqk mn))))<|RD.one 14 (RDO.ct [] [] [0] (xi (cap:=(WS S J xss f).length) (k:=99020000) (n:=(sizeOf S).toNat) (q:=qk) (t:=f) (M1:=(⟨(WS S J xss f),[],0⟩:MemS)) (hx_.weak (by omega)) (aw hqk) (by show (WS S J xss f).length=_;omega) (by show (eo S3 S3.nb).length=_;rw [gw,h3e.size]) (by omega) (tC hV he2_ hn50 hrow (by omega)) (by omega)) ?_)
    rintro _ ⟨M38,T39⟩ ⟨rfl,he40,hb41,hG42⟩
    dsimp only at he40 hb41 hG42
    refine ag [] [15] []<|RD.fin<|ai 29 [.ro 0,.nw,.nw] [bd ((t:Int) - ((t:Int) % (ev:Int))),0 <= (t:Int) /\ (0:Int) < (ev:Int) /\ (t:Int) <= 9223372036854775807] λ _=>aJ 66 (congrArg (λ v_=>(vI v_:Value)) (show (t:Int) - (t:Int) % (ev:Int)=(f:Int) by rw [hm_];omega))<|RN.ct (Hp:=[]) (Tp:=[]) [] [] (uD (f:Int) (t:Int) rp _) ?_
    rintro _ m43 rfl
    refine ae 3 [] λ _=>RN.range (σ:=Nat × MemS × HL) (τ:=Nat × MemS × HL × Rw) (encs:=λ (x_:Rw)=>#[.slice x_.A x_.n x_.c]) (xs:=(GP rl f t)) (enters_of Tryz.func69 (by kernel_rfl) rfl) (λ ⟨m_,N_,T_⟩=>([],[T_])) (λ i_ ⟨m_,N_,T_⟩=>m_=i_ /\ N_.cs=(⟨WS S J xss (f+m_),[],0⟩:MemS).cs /\ (0 <= N_.base /\ N_.base <= 1000000 * (m_:Int)) /\ GameX rs_ ds_ bp g32 mb_ S33 N_ 99020000 T_) (λ c_ ⟨m_,N_,T_⟩=>False) (λ ⟨m_,N_,T_,p_⟩=>⟨[(4,vP (n1+0) 0),(5,vP (n1+1) 0),(6,vP (n1+2) 0),(7,vP (n31+0) 0),(10,vI ((t:Int) % (ev:Int))),(11,.slice p_.A p_.n p_.c)],[],[T_],True,0⟩) (λ i_ x_ ⟨m_,N_,T_,p_⟩=>m_=i_ /\ p_=rl.getD (f+m_) mJ.dflt /\ m_ < t - f /\ N_.cs=(⟨WS S J xss (f+m_),[],0⟩:MemS).cs /\ (0 <= N_.base /\ N_.base <= 1000000 * (m_:Int)) /\ GameX rs_ ds_ bp g32 mb_ S33 N_ 99020000 T_) (0,M38,T39) (⟨rfl,he40,⟨by rw [hb41];exact Int.le_refl 0,by rw [hb41];exact Int.le_refl 0⟩,hG42⟩) [] [0] (uC S3 bp ev gb0 rp n rc cc f t (m43+1) (m43+2) (m43+0) rA cA rl cl _ (aB 1) (aB 0) (aB 2) (aw hrp) hr.up ⟨by omega,ht,by omega⟩) ?_ ?_ ?_ ?_
    ·rintro l_ i_ x_ ⟨m_,N_,T_⟩ Y44 w45 hx46 ⟨rfl,hcs_,hb_,hg_⟩ mt47
     refine ae 3 [] λ _=>?_
     refine mt47 (m_,N_,T_,x_) [] [0] ?_
     try dsimp only
     exact ⟨rfl,(oL hx46).2,(oL hx46).1,hcs_,hb_,hg_⟩
    ·rintro l_ i_ x_ ⟨m_,N_,T_,p_⟩ Y48 w49 hx50 ⟨rfl,hp_,hlt_,hcs_,hb_,hg_⟩
     obtain ⟨bk,ok,Nk,fk,ck,ek2_,hIk,hik,hxk,hck2_⟩:=hw.get (k:=f+m_) (by rw [hr.len];omega)
     refine aJ 11 (congrArg (λ v_:Rw=>Value.slice v_.A v_.n v_.c) (hp_.trans ek2_))<|ae 5 [.ro 3] λ _=>RN.ct [] [0] (oK (c:=ck) (j:=J (f+m_)) hg_ (by omega) (hAt (f+m_) (by omega)).1 (by rw [rf hcs_,(tC hV he2_ hn50 hrow (i:=f+m_) (by omega)).t0];exact (hAt (f+m_) (by omega)).2.mono λ x hx=>aw (List.mem_append_right Y48 (List.mem_append_right _ hx))) (aw (List.mem_append_right Y48 (List.mem_append_right _ hE))) (aw (List.mem_append_right Y48 (List.mem_append_right _ hIk))) hik (by have h_:=(hrow (f+m_) (by omega)).1;have h2_:=hV.pl;omega) hxk ((GL hV he2_ hn50 hrow (by omega)).cs hcs_.symm)) ?_
     rintro _ ⟨M51,T52⟩ ⟨rfl,hG53,he54,hb55⟩
     dsimp only at hG53 he54 hb55
     refine ae 12 [] λ _=>RN.rn (m_+1,M51,T52) [] [0] ?_
     try dsimp only
     exact ⟨rfl,he54.trans ((qh _ hcs_).trans (uA he2_ (f+m_)).symm),⟨hb55.1,by omega⟩,hG53⟩
    ·rintro d56 ⟨m_,N_,T_⟩  ⟨rfl,hcs_,hb_,hg_⟩
     refine ae 5 [.own 4] λ _=>aj (AR hg_ (aA 0))<|RN.ct (Hp:=[]) (Tp:=[]) [] [] (zd hg_ (aA 0)) ?_
     rintro _ q57 rfl
     refine ae 6 [.own 8,.own 7,.own 6] λ _=>RN.retM [d56] [1] [.own 7,.own 6,.own 5] [0] [] (v:=.tuple #[vS q57 0 N_.cs.length N_.cs.length,vI ((t:Int) % (ev:Int)),vI 0]) (H':=(ap [(q57,.rows 1 N_.cs.length (aK N_.cs) 3 (0,0))] [])) ?_
     have hct_:N_.cs=WS S J xss t:=by rw [hcs_,lH,show f+(t - f)=t by omega]
     exact ⟨q57,by rw [hct_],by rw [hct_]⟩
    ·exact λ _ _ _ h=>h.elim
theorem Ji (S S3:Setup) (rs_:List Bx) (ds_:List Dr) (bp ev gb0 rp n rc cc t:Nat) (J:Nat -> Nat × Int) (rA cA:Option Addr) (rl:List Rw) (cl:List Ck) (xss:List (List Inp)) (F:HL) (hrp:(rp,.lit (Setup.l S3++[vP bp 0,vI (ev:Int),vP gb0 0,.slice rA n rc,.slice cA cl.length cc]) 86 (0,0)) ∈ F) (h3e:SetEq S S3) (hS3:SetIn F S3) (hM:MapIn F S3 rs_ ds_) (hV:SetV S) (hrn:S.rn <= 1000000) (hdn:S.dn <= 1000000) (hsz:48 <= sizeOf S /\ sizeOf S <= 1000) (hv:gU S rs_ ds_=0) (hr:RowL mJ 54 F rA n rl) (hw:RwsIn F rl xss) (hc:RowL r6 88 F cA cl.length cl) (hck:∀ k,k < cl.length -> ∃ q,cl.getD k r6.dflt=⟨some ⟨q,0,none⟩,(WS S J xss (k * ev)).length,(WS S J xss (k * ev)).length,fN (WS S J xss (k * ev))⟩ /\ (q,.rows 1 (WS S J xss (k * ev)).length (aK (WS S J xss (k * ev))) 3 (0,0)) ∈ F) (hcl:cl.length=n / ev+1) (hev:1 <= ev /\ ev <= 60) (hE:dh F) (hn50:n <= 50) (hrow:∀ i,i < n -> iK S.players (xss.getD i [])) (hAt:∀ i,i < n -> (J i).1 < 5 /\ AtOk F bp (i:Int) (J i)) (ht:t <= n):Sp Tryz.prog 13 #[vP rp 0,vI (t:Int)] (ap [] []) F (λ u H'=>∃ q:Nat,H'=ap [(q,.rows 1 (WS S J xss t).length (aK (WS S J xss t)) 3 (0,0))] [] /\ u=.tuple #[vS q 0 (WS S J xss t).length (WS S J xss t).length,vI ((t:Int) % (ev:Int)),vI 0]):=GS S S3 rs_ ds_ bp ev gb0 rp n rc cc t J rA cA rl cl xss F hrp h3e hS3 hM hV hrn hdn hsz hv hr hw hc hck hcl hev hE hn50 hrow hAt ht
end Go.Proofs.YtgdcbiiopbpgaaaGreatDoor
