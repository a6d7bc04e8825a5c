import Derived.Test.YtcfajdgeejeieaaGreatDoorV47
import Derived.Test.YtcfajdgeejeieaaGreatDoorV46
import Derived.Test.YtcfajdgeejeieaaGreatDoorRows
import Derived.Test.YtcfajdgeejeieaaGreatDoorChecked
import Derived.Test.YtcfajdgeejeieaaGreatDoorV25
import Derived.ProofKit
import Derived.OpenShut
import Derived.Carry
import Derived.Lay
import Derived.LaidHandle
import Derived.ChangeSlices
set_option maxHeartbeats 4000000
set_option maxRecDepth 100000
set_option linter.unusedSimpArgs false
set_option linter.unusedVariables false
namespace Go.Proofs.YtcfajdgeejeieaaGreatDoor
open Go.RowKit
theorem Sp.fr {P:Program} {f:FuncId} {args:Array Value} {H H2 X F:HL} {R R2:Value -> HL -> Prop} (hp:H2.Perm (H++X)) (h:Sp P f args H (X++F) R) (hr:∀ u Y,R u Y -> ∃ H',R2 u H' /\ H'.Perm (Y++X)):Sp P f args H2 F R2:=λ w hR =>
 (h w (by rw [<- List.append_assoc];exact hR.perm (hp.symm.append_right F))).mono λ e w' ⟨v,Y,h1,h2,h3,h4⟩=>by
  obtain ⟨H',h5,h6⟩:=hr v Y h2
  exact ⟨v,H',h1,h5,(by rw [<- List.append_assoc] at h3;exact h3.perm (h6.append_right F)),h4⟩
inductive GameX (rs:List Bx) (ds:List Dr) (bp gb mb:Nat) (S:Setup) (M:MemS) (k:Nat):HL -> Prop
 | mk (T U:HL) (hM:MemH mb M k T) (hU:SetTl S rs ds U):GameX rs ds bp gb mb S M k (ap [(gb,.lit (gameL S bp mb) 97 (0,0))] [T,U])
section
variable {rs:List Bx} {ds:List Dr} {bp gb mb:Nat} {S:Setup} {M:MemS} {k:Nat} {G0:HL}
theorem GameH.x (h:GameH rs ds bp gb S M k G0):∃ mb,GameX rs ds bp gb mb S M k G0:=by
 cases h with
 | mk mb T U hM hU=>exact ⟨mb,.mk T U hM hU⟩
theorem GameX.h (h:GameX rs ds bp gb mb S M k G0):GameH rs ds bp gb S M k G0:=by
 cases h with
 | mk T U hM hU=>exact .mk mb T U hM hU
theorem GameX.weak (h:GameX rs ds bp gb mb S M k G0) {k':Nat} (hk:k' <= k):GameX rs ds bp gb mb S M k' G0:=by
 cases h with
 | mk T U hM hU=>exact .mk T U (hM.weak hk) hU
theorem GameX.mem (h:GameX rs ds bp gb mb S M k G0):∃ T,MemH mb M k T /\ ∀ x ∈ T,x ∈ G0:=by
 cases h with
 | mk T U hM hU=>exact ⟨T,hM,λ x hx=>by simp [ap,hx]⟩
theorem gmemX (h:GameX rs ds bp gb mb S M k G0) {F:HL} (hF:∀ x ∈ G0,x ∈ F):Sp Tryz.prog 13 #[vP gb 0] [] F (λ u H'=>u=vP mb 0 /\ H'=[]):=by
 cases h with
 | mk T U hM hU=>exact gmem_any S bp gb mb F (hF _ (by simp [ap]))
theorem markX (h:GameX rs ds bp gb mb S M k G0) {F:HL} (hF:∀ x ∈ G0,x ∈ F) (hb:M.base=0):Sp Tryz.prog 24 #[vP mb 0] [] F (λ u H'=>u=vI (M.lg.length:Int) /\ H'=[]):=by
 obtain ⟨T,hM,hT⟩:=h.mem
 have h1:=mark_b hM (λ x hx=>hF x (hT x hx)) (by omega)
 rwa [hb,Int.zero_add] at h1
theorem cellsX (h:GameX rs ds bp gb mb S M k G0) {F:HL} (hF:∀ x ∈ G0,x ∈ F):Sp Tryz.prog 14 #[vP mb 0] (ap [] []) F (λ u H'=>∃ q,H'=ap [(q,.rows 1 M.cs.length (irow M.cs) 3 (0,0))] [] /\ u=vS q 0 M.cs.length M.cs.length):=by
 obtain ⟨T,hM,hT⟩:=h.mem
 exact cells_ap mb M k T F hM λ x hx=>hF x (hT x hx)
theorem chgX (h:GameX rs ds bp gb mb S M k G0) {F:HL} (hF:∀ x ∈ G0,x ∈ F) (hb:M.base=0) {n0:Nat} (hn0:n0 <= M.lg.length):Sp Tryz.prog 25 #[vP mb 0,vI (n0:Int)] (ap [] []) F (λ u H'=>∃ x:Option Addr × Nat × HL,H'=ap [] [x.2.2] /\ (u=.tuple #[.slice x.1 (chgL (M.lg.drop n0)).length x.2.1,vI 0] /\ SlIs intE 3 (chgL (M.lg.drop n0)) x.1 x.2.1 x.2.2)):=by
 obtain ⟨T,hM,hT⟩:=h.mem
 cases hM with
 | mk cb A cap Hl hs hc hl =>
  have h1:=chg_mem mb cb n0 cap M A Hl F (hF _ (hT _ (by simp [ap]))) hs (λ x hx=>hF _ (hT _ (by simp [ap,hx]))) (by omega) (by omega) hn0
  rwa [hb,Int.zero_add] at h1
theorem undoX (h:GameX rs ds bp gb mb S M k G0) (F:HL) {k2:Nat} (hk:k2 <= k) (hb:M.base=0) {M1:MemS} (hb1:M1.base=0) {es:List (Int × Int)} (hl:M.lg=M1.lg++es) (hu:UndP M1.cs ⟨M.cs,es,0⟩):Sp Tryz.prog 26 #[vP mb 0,vI (M1.lg.length:Int)] (ap [] [G0]) F (λ u H'=>∃ x,H'=ap [] [x] /\ (u=vI 0 /\ GameX rs ds bp gb mb S M1 k2 x)):=by
 cases h with
 | mk T U hM hU =>
  have e1:M.lg.drop M1.lg.length=es:=by rw [hl,List.drop_left]
  have e2:M.lg.take M1.lg.length=M1.lg:=by rw [hl,List.take_left]
  have h1:=undo_any (n0:=M1.lg.length) (k2:=k2) ([(gb,Blk.lit (gameL S bp mb) 97 (0,0))]++(U++F)) hM hk (by omega) (by rw [hl];simp) (by rw [e1];intro e he;have:=hu.ent e he;have:=hu.len;have h3:M.cs.length=M1.cs.length:=this;omega)
  rw [hb,Int.zero_add,e1,e2] at h1
  have h2:undL M.cs es=M1.cs:=hu.und
  have e3:∀ (c:List Int) (b:Int),c=M1.cs -> b=M1.base -> (⟨c,M1.lg,b⟩:MemS)=M1:=by rintro _ _ rfl rfl;rfl
  rw [e3 _ _ h2 hb1.symm] at h1
  refine Sp.fr (X:=[(gb,Blk.lit (gameL S bp mb) 97 (0,0))]++U) ?_ (F:=F) (by rw [List.append_assoc];exact h1) ?_
  ·rw [ap_one,ap_one]
   show (([(gb,Blk.lit (gameL S bp mb) 97 (0,0))]++[T,U].flatten)).Perm _
   simp only [List.flatten_cons,List.flatten_nil,List.append_nil]
   exact (List.perm_append_comm_assoc _ _ _)
  ·rintro u Y ⟨x,rfl,rfl,h4⟩
   refine ⟨ap [(gb,Blk.lit (gameL S bp mb) 97 (0,0))] [x,U],⟨_,(ap_one _).symm,rfl,.mk x U h4 hU⟩,?_⟩
   rw [ap_one]
   show (([(gb,Blk.lit (gameL S bp mb) 97 (0,0))]++[x,U].flatten)).Perm _
   simp only [List.flatten_cons,List.flatten_nil,List.append_nil]
   exact (List.perm_append_comm_assoc _ _ _)
end
theorem tick_tkX {rs:List Bx} {ds:List Dr} {S:Setup} {bp gb mb b o N c k:Nat} {j:Nat × Int} {full xs:List Inp} {M:MemS} {G0 F:HL} (hG:GameX rs ds bp gb mb S M (k+20000) G0) (hj:j.1 < 5) (hA:AtOk F bp (M.get 0) j) (hE:EffIn F) (hI:(b,.rows 3 N (inrow full) 122 (0,0)) ∈ F) (hir:o+xs.length <= N) (hni:xs.length <= 1000000) (hx:∀ k,k < xs.length -> full.getD (o+k) dI=xs.getD k dI) (hk:TkOk S j xs M) :
  Sp Tryz.prog 11 #[vP gb 0,vS b (o * 3) xs.length c] (ap [] [G0]) F (λ u H'=>∃ x:(Option Addr × Nat × Nat) × HL × HL,H'=ap [] [x.2.1,x.2.2] /\ (GameX rs ds bp gb mb S (tkM (gmX S j xs) M) k x.2.1 /\ SlIs effE 102 (tkE (gmX S j xs) M) x.1.1 x.1.2.1 x.2.2 /\ u=.tuple #[.slice x.1.1 (tkE (gmX S j xs) M).length x.1.2.1,vI ((x.1.2.2+1:Nat):Int),vI 0])):=by
 obtain ⟨m,hm,hg⟩:=hk.ex
 obtain ⟨e1,e2⟩:=tk_of hm hg
 cases hG with
 | mk T U hM hU =>
  rw [ap_one]
  refine (tick_run S rs ds bp gb mb b o N xs.length c m k j full xs M T U F hj hA hU hE hI hir hni (by omega) rfl hx (hM.weak (by omega)) hk.now hg hk.ok).mono λ u H' h=>?_
  obtain ⟨x,rfl,h1,h2,h3⟩:=h
  rw [e1] at h1
  rw [e2] at h2 h3
  exact ⟨((x.2.1,x.2.2.1,m),ap [(gb,.lit (gameL S bp mb) 97 (0,0))] [x.1,U],x.2.2.2),by simp [ap],.mk x.1 U h1 hU,h2,h3⟩
theorem play_runX (rs_:List Bx) (ds_:List Dr) (S:Setup) (bp gb mb n cap k:Nat) (J:Nat -> Nat × Int) (A:Option Addr) (rs:List Rw) (xss:List (List Inp)) (M:MemS) (G0 F:HL) (hG:GameX rs_ ds_ bp gb mb S M (k+20000 * n) G0) (hE:EffIn F) (hr:RowL rwE 44 F A n rs) (hw:RwsIn F rs xss) (hxl:∀ k,k < n -> (xss.getD k []).length <= 1000000) (hn:n <= 50) (hJ:∀ i,i < n -> (J i).1 < 5 /\ AtOk F bp ((plM (rG S J xss) M i).get 0) (J i)) (hP:∀ i,i < n -> TkOk S (J i) (xss.getD i []) (plM (rG S J xss) M i)):Sp Tryz.prog 23 #[vP gb 0,.slice A n cap] (ap [] [G0]) F (λ u H'=>∃ x:(Option Addr × Nat) × HL × HL,H'=ap [] [x.2.1,x.2.2] /\ (GameX rs_ ds_ bp gb mb S (plM (rG S J xss) M n) k x.2.1 /\ SlIs effE 102 (plE (rG S J xss) M n) x.1.1 x.1.2 x.2.2 /\ u=.tuple #[.slice x.1.1 (plE (rG S J xss) M n).length x.1.2,.bool true])):=by
 refine Sp.run Tryz.func23 rfl mn (A:=[]) (Ts:=[G0]) rfl λ w0=>?_
 refine RN.go 18 [] λ _=>RN.nt<|RN.loop (σ:=Nat × Option Addr × Nat × HL × HL) (λ ⟨i_,A_,c_,G_,E_⟩=>⟨[(0,vP gb 0),(1,.slice A n cap),(6,.slice A_ ((plE (rG S J xss) M i_).length) c_),(7,vI (i_:Int))],[],[G_,E_],i_ <= n /\ GameX rs_ ds_ bp gb mb S (plM (rG S J xss) M i_) (k+20000 * (n - i_)) G_ /\ SlIs effE 102 (plE (rG S J xss) M i_) A_ c_ E_,n - i_⟩) (0,none,0,G0,[]) [] [1,0] (⟨Nat.zero_le _,hG,SlIs.nil _ _⟩) ?_
 rintro ⟨i_,A_,c_,G_,E_⟩ ⟨hi_,hG_,hs_⟩ mt2
 refine RN.go 9 [] λ _=>RN.em ((i_:Int) < (n:Int)) 14 (λ h3=>?_) λ h3=>?_
 ·refine RN.go 10 [] λ _=>?_
  have hG2_:=hG_.weak (k':=k+20000 * (n - (i_+1))+20000) (by omega)
  obtain ⟨qx4,ox4,Nx4,fx4,fzx4,hAx4,hqx4,hox4,hgx4⟩:=hr.at (k:=i_) (by omega)
  refine RN.sv 19 (congrArg (λ v_=>(.slice v_ n cap:Value)) hAx4)<|RN.ro (λ _=>(mc hqx4 mn))<|RN.goP 2 [.ix i_,.rorow 0 (ox4+i_) 0] [(ox4 * 1+i_ * 1)=(ox4+i_) * 1+0 /\ (ox4+i_) < Nx4,(i_:Int)=((i_:Nat):Int) /\ i_ < n] λ _=>RN.sv 22 (congrArg (λ v_=>(.slice v_.A v_.n v_.c:Value)) hgx4) ?_
  obtain ⟨bw5,ow5,Nw5,fw5,cw5,ew5,hIw5,hiw5,hxw5,hcw5⟩:=hw.get (k:=i_) (by rw [hr.len];omega)
  refine RN.sv 22 (congrArg (λ v_:Rw=>Value.slice v_.A v_.n v_.c) ew5)<|RN.ct [] [0] (tick_tkX (c:=cw5) (k:=(k+20000 * (n - (i_+1)))) hG2_ (hJ i_ (by omega)).1 ((hJ i_ (by omega)).2.mono λ x hx=>ro_ap hx) (ro_ap hE) (ro_ap hIw5) hiw5 (by have:=hxl i_ (by omega);omega) hxw5 (hP i_ (by omega))) ?_
  rintro _ ⟨⟨A6,c7,n8⟩,T9,E10⟩ ⟨hG11,hs12,rfl⟩
  dsimp only at hG11 hs12
  refine RN.go 20 [] λ _=>RN.em (((n8+1:Nat):Int) < 1) 32 (λ h13=>?_) λ h13=>?_
  ·(exfalso;omega)
  ·refine RN.go 6 [] λ _=>RN.appU (c':=c7) (tx:=40) effEOk (plE (rG S J xss) M i_) (tkE (gmX S (J i_) (xss.getD i_ [])) (plM (rG S J xss) M i_)) 2 rfl hs_ (by have h1_:=plE_len (rG S J xss) M i_;have h2_:=tkE_len (gmX S (J i_) (xss.getD i_ [])) (plM (rG S J xss) M i_);omega) (hs12.src effEOk (by decide) (sub_ap 1)) ?_
   rintro A14 c15 T16 ⟨hs17,hz18⟩
   refine RN.goP 9 [.nw] [I64 ((i_:Int)+1)] λ _=>RN.sv 6 (congrArg (λ v_=>(.slice A14 v_ c15:Value)) (show (plE (rG S J xss) M i_).length+(tkE (gmX S (J i_) (xss.getD i_ [])) (plM (rG S J xss) M i_)).length=(plE (rG S J xss) M (i_+1)).length by rw [plE,List.length_append])) ?_
   refine mt2 (i_+1,A14,c15,T9,T16) [] [1,0] ?_
   try dsimp only
   exact ⟨⟨by omega,hG11.weak (by omega),hs17⟩,by omega⟩
 ·refine RN.go 13 [] λ _=>RN.ret [] [] [0,1] (v:=.tuple #[.slice A_ ((plE (rG S J xss) M i_).length) c_,.bool true]) (H':=(ap [] [G_,E_])) ?_
  obtain rfl:i_=n:=by omega
  exact ⟨((A_,c_),G_,E_),rfl,hG_.weak (by omega),hs_,rfl⟩
theorem plM_base (G:Nat -> Gm) (M:MemS):∀ n,(plM G M n).base=M.base
 | 0=>rfl
 | n+1=>by rw [plM,tkM_base];exact plM_base G M n
theorem pl_und (G:Nat -> Gm) (M:MemS) {n:Nat} (hn:n=1):∃ es,(plM G M n).lg=M.lg++es /\ UndP M.cs ⟨(plM G M n).cs,es,0⟩:=by
 subst hn
 obtain ⟨es,h1,_,h3⟩:=tk_und (G 0) M
 exact ⟨es,h1,h3⟩
section
variable {tk:Int} {S S1:Setup} {rs_:List Bx} {ds_:List Dr} {bp gb mb n cap k t j1 j2:Nat} {A:Option Addr} {rs:List Rw} {xss:List (List Inp)} {M:MemS} {G0 F TB:HL}
theorem play_jX (hV:SetV S) (h1:SetEq S S1) (hG:GameX rs_ ds_ bp gb mb S1 M (k+20000 * n) G0) (hE:EffIn F) (hr:RowL rwE 44 F A n rs) (hw:RwsIn F rs xss) (hrow:∀ i,i < n -> RowOk S.players (xss.getD i [])) (hn:t+n <= 50) (hT:TE2 S1 (t:Int) M) (hB:Book2 tk j1 j2 bp TB) (hTB:∀ x ∈ TB,x ∈ F) (hj1:j1 < 5) (hj2:j2 < 5) :
  Sp Tryz.prog 23 #[vP gb 0,.slice A n cap] (ap [] [G0]) F (λ u H'=>∃ x:(MemS × Option Addr × Nat) × HL × HL,H'=ap [] [x.2.1,x.2.2] /\
   (GameX rs_ ds_ bp gb mb S1 x.1.1 k x.2.1 /\ x.1.1=plM (rG S1 (J2t tk j1 j2 t) xss) M n /\ TE2 S1 ((t+n:Nat):Int) x.1.1 /\ SlIs effE 102 (plE (rG S1 (J2t tk j1 j2 t) xss) M n) x.1.2.1 x.1.2.2 x.2.2 /\ u=.tuple #[.slice x.1.2.1 (plE (rG S1 (J2t tk j1 j2 t) xss) M n).length x.1.2.2,.bool true])):=by
 have hV1:=h1.setV hV
 have hp:=hV.pl
 have hrow1:∀ i,i < n -> RowOk S1.players (xss.getD i []):=λ i hi=>by rw [h1.pl];exact hrow i hi
 have hok:=pl_okT hV1 hT (J2t tk j1 j2 t) n hn hrow1
 refine (play_runX rs_ ds_ S1 bp gb mb n cap k (J2t tk j1 j2 t) A rs xss M G0 F hG hE hr hw (λ i hi=>by have:=(hrow i hi).1;omega) (by omega) (λ i hi=>at_j2 hB hTB hj1 hj2 (hok i (by omega)).t0) (λ i hi=>pl_tkT hV1 hT (J2t tk j1 j2 t) n hn hrow1 i hi)).mono λ u H' h=>?_
 obtain ⟨⟨⟨A2,c2⟩,G2,E2⟩,rfl,h3,h4,h5⟩:=h
 exact ⟨((_,A2,c2),G2,E2),rfl,h3,rfl,hok n (Nat.le_refl _),h4,h5⟩
end
theorem sameL_any (A B:Option Addr) (n ca cb:Nat) (es:List Int) (F:HL) (ha:RowL intE 3 F A n es) (hb:RowL intE 3 F B n es) (hn:n <= 1000000000):Sp Tryz.prog 27 #[.slice A n ca,.slice B n cb] [] F (λ u H'=>u=.bool true /\ H'=[]):=by
 refine Sp.run Tryz.func27 rfl mn (A:=[]) (Ts:=[]) rfl λ w0=>?_
 refine RN.go 15 [] λ _=>RN.fx 10 (nt (decide_eq_true (rfl:(n:Int)=(n:Int))))<|RN.go 10 [] λ _=>RN.loop (σ:=Nat) (λ k_=>⟨[(0,.slice A n ca),(1,.slice B n cb),(5,vI (k_:Int))],[],[],k_ <= n,n - k_⟩) 0 [] [] (Nat.zero_le _) ?_
 rintro k_ hI1 mt2
 refine RN.go 9 [] λ _=>RN.em ((k_:Int) < (n:Int)) 14 (λ h3=>?_) λ h3=>?_
 ·refine RN.go 6 [] λ _=>RN.draw [] []<|RD.go [] [0,1,4,5] [] ?_
  obtain ⟨qx4,ox4,Nx4,fx4,fzx4,hAx4,hqx4,hox4,hgx4⟩:=ha.at (k:=k_) (by omega)
  refine RD.sv 17 (congrArg (λ v_=>(.slice v_ n ca:Value)) hAx4)<|RD.ro (λ _=>(mc hqx4 mn)) ?_
  obtain ⟨qx5,ox5,Nx5,fx5,fzx5,hAx5,hqx5,hox5,hgx5⟩:=hb.at (k:=k_) (by omega)
  refine RD.sv 21 (congrArg (λ v_=>(.slice v_ n cb:Value)) hAx5)<|RD.ro (λ _=>(mc hqx4 (mc hqx5 mn)))<|RD.goP [] [2,6,3,7] [.ix k_,.ix k_,.rorow 0 (ox4+k_) 0,.rorow 1 (ox5+k_) 0] [(ox5 * 1+k_ * 1)=(ox5+k_) * 1+0 /\ (ox5+k_) < Nx5,(ox4 * 1+k_ * 1)=(ox4+k_) * 1+0 /\ (ox4+k_) < Nx4,(k_:Int)=((k_:Nat):Int) /\ k_ < n,(k_:Int)=((k_:Nat):Int) /\ k_ < n]<|RD.sv 20 (congrArg (λ v_=>(vI v_:Value)) hgx4)<|RD.sv 24 (congrArg (λ v_=>(vI v_:Value)) hgx5)<|RD.go [] [8] []<|RD.fin<|RN.go 1 [] λ _=>RN.en ((es.getD k_ intE.dflt)=(es.getD k_ intE.dflt)) 25 (λ h6=>?_) λ h6=>?_
  ·refine RN.goP 9 [.nw] [I64 ((k_:Int)+1)] λ _=>?_
   refine mt2 (k_+1) [] [] ?_
   try dsimp only
   exact ⟨by omega,by omega⟩
  ·exact absurd rfl h6
 ·refine RN.go 11 [] λ _=>?_
  exact RN.ret [] [] [] ⟨rfl,rfl⟩
theorem gnow_e {rs:List Bx} {ds:List Dr} {S:Setup} {bp gb k:Nat} {M:MemS} {G F:HL} (hG:GameH rs ds bp gb S M k G) (hF:∀ x ∈ G,x ∈ F) {e:Int} (he:M.get 0=e):Sp Tryz.prog 28 #[vP gb 0] [] F (λ u H'=>u=vI e /\ H'=[]):=he ▸ gnowH hG hF
theorem undos_any (A0 AI:Option Addr) (n0 c0 nI cI:Nat) (xs xI:List Int) (i1 i3:Int) (F:HL) (hE0:TabIn F) (hE1:EffIn F) (hl0:ArgD F A0 n0 xs) (hn0:n0 <= 9223372036854775807) (hl2:ArgD F AI nI xI) (hn2:nI <= 9223372036854775807) (hi1:i64r i1) (hi3:i64r i3):Sp Tryz.prog 4 #[.slice A0 n0 c0,vI i1,.slice AI nI cI,vI i3] [] F (λ u H'=>u=.bool true /\ H'=[]):=by
 refine Sp.run Tryz.func4 rfl mn (A:=[]) (Ts:=[]) rfl λ w0=>?_
 refine RN.go 8 [] λ _=>RN.ct (Hp:=[]) (Tp:=[]) [] [] (hl0.up.use λ F_ h_=>setup_ap A0 n0 c0 xs _ h_ hn0) ?_
 rintro _ ⟨S,TS⟩ ⟨rfl,hG⟩
 dsimp only at hG
 have hF:=gfacts hl0 hG
 have hpl:=hF.pl
 have hnb:=hF.nb
 have hrn:=hF.rn
 have hdn:=hF.dn
 have hsz:=hF.sz
 have hil:=iniL_len S S.nb
 have hV:SetV S:=hl0.ex.elim λ _ h_=>setV h_ hG
 refine RN.go 5 (ow 0 16) λ n1=>RN.draw [] []<|RD.go [] [0,1] (ow 0 16)<|RD.one 2 (RDO.ct [] (Hp:=[]) (Tp:=[]) [] [] (book2_any i1 3 _ hi1 (by unfold i64r;omega) (by decide) (ro_ap hE0)) ?_)
 rintro _ ⟨b2,T3⟩ ⟨rfl,hB4⟩
 dsimp only at hB4
 have hj1:(around i1 5).toNat < 5:=by have:=around_bd (n:=i1) hi1 5 (by decide);omega
 have hj2:(around 3 5).toNat < 5:=by decide
 refine RD.one 3 (RDO.ct [] (Hp:=[]) (Tp:=[]) [] [] (started_any S genR (genD (kv xs 3 % 3).toNat) b2 _ (hG.sin _ (in_ap 1) (sub_ap 1)).cl (hG.maps.2 _ (sub_ap 1)) (by omega) (by omega) (by omega) (by omega) hF.val 1000000 (by decide)) ?_)
 rintro _ ⟨g5,S6,T7⟩ ⟨rfl,he8,hg9⟩
 dsimp only at he8 hg9
 obtain ⟨mb_,hx_⟩:=hg9.x
 refine RD.go [] [4] []<|RD.fin<|RN.go 12 [] λ _=>RN.draw [] []<|RD.go [] [0,1,2] (ow 0 16)<|RD.cp [] 3 (λ X_=>(around_any i3 6 (by decide) _)) ?_
 have hA10:=around_bd (n:=i3) hi3 6 (by decide)
 refine RD.goP [] [4] [.nw] [I64 (1+(around i3 6))] ?_
 obtain ⟨cnt,hcnt,hcl⟩:∃ cnt:Nat,1+(around i3 6)=(cnt:Int) /\ cnt <= 6:=⟨(1+(around i3 6)).toNat,by omega,by omega⟩
 refine RD.one 5 (RDO.ct [] (Hp:=[]) (Tp:=[]) [] [] (hl2.up.use λ F_ h_=>rows_ap S AI nI cI xI (1+(around i3 6)) cnt F_ h_ hn2 (by omega) hcnt (by omega)) ?_)
 rintro _ ⟨⟨A11,c12,rs13⟩,E14,T15⟩ ⟨rfl,hs16,hl17,hT18⟩
 dsimp only at hs16 hl17 hT18
 have hgr:∀ i,i < cnt -> RowOk S.players ((rowsG S.players xI cnt).getD i []):=λ i hi=>hl2.ex.elim λ _ h_=>gen_rows h_ (by omega) cnt i hi
 obtain ⟨kk,hkk⟩:∃ kk,kk+1=cnt:=⟨cnt - 1,by omega⟩
 have hcap_:cnt <= c12:=by have h_:=hs16.capLe;omega
 refine RD.go [] [6] []<|RD.fin<|RN.goP 9 [.nw,.sl0 kk] [(cnt:Int) - 1=((kk:Nat):Int) /\ kk <= c12,I64 ((cnt:Int) - 1)] λ _=>RN.ct [] [2] (play_jX (tk:=2) (cap:=c12) (k:=900000) (t:=0) hV he8 (hx_.weak (by omega)) (ro_ap hE1) ((hs16.rowN (sub_ap 0) hl17).take (by omega)) ((hT18 _ (sub_ap 1)).take kk) (rows_take hgr (by omega)) (by omega) (ini_eq hV he8) hB4 (sub_ap 2) hj1 hj2) ?_
 rintro _ ⟨⟨M19,A20,c21⟩,T22,E23⟩ ⟨hg24,he25,ht26,hs27,rfl⟩
 dsimp only at hg24 he25 ht26 hs27
 rw [Nat.zero_add] at ht26
 have hb1_:M19.base=0:=by rw [he25,plM_base]
 obtain ⟨es_,hlg_,hun_⟩:=pl_und (rG S6 (J2t 2 (around i1 5).toNat (around 3 5).toNat kk) ((rowsG S.players xI cnt).drop kk)) M19 (n:=cnt - kk) (by omega)
 have hl1_:=ht26.len
 rw [he8.size] at hl1_
 refine RN.go 10 [] λ _=>RN.cp (gmemX hg24 (sub_ap 0))<|RN.go 6 [] λ _=>RN.cp (markX hg24 (sub_ap 0) hb1_)<|RN.go 6 [] λ _=>RN.ct (Hp:=[]) (Tp:=[]) [] [] (cellsX hg24 (sub_ap 0)) ?_
 rintro _ q28 rfl
 refine RN.goP 10 [.nw] [I64 ((cnt:Int) - 1)] λ _=>RN.slA (A:=A11) (n:=cnt) (cap:=c12) (l:=kk) (sz:=1) (show (cnt:Int) - 1=(kk:Int) by omega) (by omega) hcap_<|RN.ct [] [0] (play_jX (tk:=2) (cap:=(c12 - kk)) (k:=800000) (t:=kk) hV he8 (hg24.weak (by omega)) (ro_ap hE1) (hs16.drop (sub_ap 1) hl17 (by omega)) ((hT18 _ (sub_ap 2)).drop kk) (rows_drop hgr) (by omega) ht26 hB4 (sub_ap 3) hj1 hj2) ?_
 rintro _ ⟨⟨M29,A30,c31⟩,T32,E33⟩ ⟨hg34,he35,ht36,hs37,rfl⟩
 dsimp only at hg34 he35 ht36 hs37
 rw [<- he35] at hlg_ hun_
 have hb2_:M29.base=0:=by rw [he35,plM_base];exact hb1_
 have hl2_:=ht36.len
 rw [he8.size] at hl2_
 have hle_:M19.lg.length <= M29.lg.length:=by rw [hlg_,List.length_append];omega
 have hlm_:M29.lg.length <= 100000000:=by obtain ⟨_,hm_,_⟩:=hg34.mem;have h_:=hm_.len2;omega
 refine RN.go 10 [] λ _=>RN.ct (Hp:=[]) (Tp:=[]) [] [] (cellsX hg34 (sub_ap 0)) ?_
 rintro _ q38 rfl
 refine RN.go 7 [] λ _=>RN.ct (Hp:=[]) (Tp:=[]) [] [] (chgX hg34 (sub_ap 0) hb2_ hle_) ?_
 rintro _ ⟨A39,c40,T41⟩ ⟨rfl,hs42⟩
 dsimp only at hs42
 refine RN.go 23 [] λ _=>RN.ct [] [1] (undoX (k2:=700000) hg34 _ (by omega) hb2_ hb1_ hlg_ hun_) ?_
 rintro _ T43 ⟨rfl,hg44⟩
 refine RN.go 4 [] λ _=>RN.ct (Hp:=[]) (Tp:=[]) [] [] (cellsX hg44 (sub_ap 0)) ?_
 rintro _ q45 rfl
 refine RN.go 1 [] λ _=>RN.cp (sameI_b true q45 q28 M19.cs.length M19.cs.length M19.cs.length M19.cs.length M19.cs.length M19.cs.length M19.cs M19.cs _ (in_ap 0) (in_ap 2) (Nat.le_refl _) (Nat.le_refl _) (by omega) (decide_eq_true ⟨rfl,λ t ht=>rfl⟩))<|RN.go 4 [] λ _=>RN.cp (gnow_e (e:=(kk:Int)) hg44.h (sub_ap 0) (by rw [ht26.t0]))<|RN.goP 7 [.nw] [I64 ((cnt:Int) - 1)] λ _=>RN.fx 104 (nt (decide_eq_true (show (kk:Int)=(cnt:Int) - 1 by omega)))<|RN.goP 10 [.nw] [I64 ((cnt:Int) - 1)] λ _=>RN.slA (A:=A11) (n:=cnt) (cap:=c12) (l:=kk) (sz:=1) (show (cnt:Int) - 1=(kk:Int) by omega) (by omega) hcap_<|RN.ct [] [0] (play_jX (tk:=2) (cap:=(c12 - kk)) (k:=0) (t:=kk) hV he8 (hg44.weak (by omega)) (ro_ap hE1) (hs16.drop (sub_ap 3) hl17 (by omega)) ((hT18 _ (sub_ap 4)).drop kk) (rows_drop hgr) (by omega) ht26 hB4 (sub_ap 5) hj1 hj2) ?_
 rintro _ ⟨⟨M46,A47,c48⟩,T49,E50⟩ ⟨hg51,he52,ht53,hs54,rfl⟩
 dsimp only at hg51 he52 ht53 hs54
 obtain rfl:M29=M46:=he35.trans he52.symm
 refine RN.go 11 [] λ _=>RN.ct (Hp:=[]) (Tp:=[]) [] [] (chgX hg51 (sub_ap 0) hb2_ hle_) ?_
 rintro _ ⟨A55,c56,T57⟩ ⟨rfl,hs58⟩
 dsimp only at hs58
 refine RN.go 17 [] λ _=>RN.cp (samee_any A30 A47 ((plE (rG S6 (J2t 2 (around i1 5).toNat (around 3 5).toNat kk) ((rowsG S.players xI cnt).drop kk)) M19 (cnt - kk)).length) c31 c48 (plE (rG S6 (J2t 2 (around i1 5).toNat (around 3 5).toNat kk) ((rowsG S.players xI cnt).drop kk)) M19 (cnt - kk)) _ (hs37.toRowL (sub_ap 4)) (hs54.toRowL (sub_ap 2)) (Nat.le_trans (plE_len _ _ _) (by omega)))<|RN.go 3 [] λ _=>RN.ct (Hp:=[]) (Tp:=[]) [] [] (cellsX hg51 (sub_ap 1)) ?_
 rintro _ q59 rfl
 refine RN.go 1 [] λ _=>RN.cp (sameI_b true q59 q38 M29.cs.length M29.cs.length M29.cs.length M29.cs.length M29.cs.length M29.cs.length M29.cs M29.cs _ (in_ap 0) (in_ap 2) (Nat.le_refl _) (Nat.le_refl _) (by omega) (decide_eq_true ⟨rfl,λ t ht=>rfl⟩))<|RN.go 4 [] λ _=>?_
 have hch_:(chgL (M29.lg.drop M19.lg.length)).length <= 1000000000:=Nat.le_trans (chgL_len _) (by rw [List.length_drop];omega)
 refine RN.cp (sameL_any A39 A55 (chgL (M29.lg.drop M19.lg.length)).length c40 c56 (chgL (M29.lg.drop M19.lg.length)) _ (hs42.toRowL (sub_ap 3)) (hs58.toRowL (sub_ap 0)) hch_)<|RN.go 2 [] λ _=>RN.cp (lives_in (ro_ap hE0))<|RN.go 4 [] λ _=>?_
 exact RN.ret [] [] [] ⟨rfl,rfl⟩
open Go.ChangeShapes Go.WideShapes Go.ChangeAt
theorem own_knob:ownKnob Tryz.prog.godebug=none:=by kernel_rfl
theorem laid_out:laidOutB Tryz.prog=true:=by kernel_rfl
theorem int_range {n:Int} (h:(Lit.int .i64 n).wf=true):-9223372036854775808 <= n /\ n <= 9223372036854775807:=bounds_i64 h
section
variable {H:Type} {enc:TypeId × Value -> H} {P:Program} {W W':World}
theorem trodAll_below (hl:laidOutB P=true) (hb:Below W.heap.size W W'):∀ {ts:List TypeId} {vs:List Value} {ds:List (DataW H)} {ps:List MemPlace},(∀ t ∈ ts,P.readableRec t=true /\ t < P.types.size) ->
    DataW.TrodAll enc P W 0 (λ _=>true) true ts vs ds ps -> (∀ x ∈ ps,x.block < W.heap.size) -> DataW.TrodAll enc P W' 0 (λ b=>decide (b < W.heap.size)) true ts vs ds ps
  | [],_,_,_,_,h,_=>by
    obtain ⟨rfl,rfl,rfl⟩:=trodAll_nil h
    exact trodAll_mk0
  | t :: ts,_,_,_,ht,h,hlt=>by
    obtain ⟨v,vs1,d,ds1,a,b,rfl,rfl,rfl,h1,h2⟩:=trodAll_cons h
    have h3:=ht t (by simp)
    exact trodAll_cons_mk (Below.trod hl h3.1 h3.2 h1 hb (λ x hx=>hlt x (by simp [hx]))) (trodAll_below hl hb (λ t h=>ht t (List.mem_cons_of_mem _ h)) h2 (λ x hx=>hlt x (by simp [hx])))
theorem post_law {f:Func} {s:ChangeSpec} {apart fresh handsOn:Bool} {args:Array Value} {v:Value} {ds:List (DataW H)} {before:List MemPlace} (hl:laidOutB P=true)
    (hts:∀ t ∈ f.params.toList,P.readableRec t=true /\ t < P.types.size)
    (hW:DataW.Whole enc P f.params.toList s.vars apart W args.toList ds [] before) (hs:s.vars=[])
    (hA:DataW.TrodAll enc P W 0 (λ _=>true) true f.params.toList args.toList ds before)
    (hres:∀ (b:Nat) (sp:Nat -> Bool) (hd:Bool),DataW.TrodAll enc P W' b sp hd f.resultTypes.toList (v.resultList f.resultTypes.size) (s.fn H (ds++[])).results [])
    (hargs:(s.fn H (ds++[])).args=ds) (hvars:∀ sp,DataW.TrodVars enc P W' sp s.vars (s.fn H (ds++[])).vars []) (hb:Below W.heap.size W W') :
    s.post enc P f apart fresh handsOn false W args v W':=by
  refine ⟨ds,[],before,[],before,[],hW,hres _ _ _,?_,hvars _,hb.frame _,λ h=>by cases h⟩
  rw [hargs]
  exact trodAll_below hl hb hts hA (λ x hx=>hW.lt x hx)
end
def blkOf:Obj -> Blk
  | .cells cs ty fz=>.rows 1 cs.size (λ i _=>cs.getD i default) ty fz
  | o=>.obj o
theorem blkOf_den (o:Obj):(blkOf o).den=o:=by
  cases o with
  | cells cs ty fz =>
    show Obj.cells ⟨rowsOf 1 (λ i _=>cs.getD i default) cs.size⟩ ty fz=_
    congr 1
    have e:rowsOf 1 (λ i _=>cs.getD i default) cs.size=cs.toList:=by
      refine rowsOf_ext (by simp) ?_
      intro i k hi hk
      obtain rfl:k=0:=by omega
      simp [Array.getD,hi]
    rw [e]
  | _=>rfl
def worldF (w:World):HL:=List.ofFn (λ k:Fin w.heap.size=>(k.1,blkOf w.heap[k.1]))
theorem worldF_mem {w:World} {k:Nat} {o:Obj} (h:w.heap[k]?=some o):(k,blkOf o) ∈ worldF w:=by
  obtain ⟨hk,he⟩:=Array.getElem?_eq_some_iff.1 h
  exact List.mem_ofFn.2 ⟨⟨k,hk⟩,by simp [he]⟩
theorem worldF_rel (w:World):Rel (worldF w) w:=by
  refine ⟨λ x hx=>?_,?_⟩
  · obtain ⟨k,rfl⟩:=List.mem_ofFn.1 hx
    simp [blkOf_den]
  · unfold worldF
    rw [List.map_ofFn]
    have e:List.ofFn ((λ x:Nat × Blk=>x.1) ∘ λ k:Fin w.heap.size=>(k.1,blkOf w.heap[k.1]))=List.range w.heap.size:=by
      apply List.ext_getElem
      · simp
      · intro i h1 h2;simp
    rw [e]
    exact List.nodup_range
theorem Sp.callsW {P:Program} {f:FuncId} {args:Array Value} {v:Value} (w:World) (h:Sp P f args [] (worldF w) (λ u H'=>u=v /\ H'=[])):Calls P f args w λ e w'=>e=.returned v /\ Below w.heap.size w w':=by
  refine (h w (worldF_rel w)).mono ?_
  rintro e w' ⟨u,H',rfl,⟨rfl,rfl⟩,hR',hB⟩
  refine ⟨rfl,hB.os,hB.tape,hB.output,hB.size,λ k hk=>?_⟩
  have:=hR'.holds (k,blkOf w.heap[k]) (by rw [List.nil_append];exact worldF_mem (by simp [hk]))
  rw [this]
  simp [blkOf_den,hk]
theorem open_arg {H:Type} {enc:TypeId × Value -> H} {w:World} {r:Reach} {b0:Nat} {v:Value} {d:DataW H} {ps:List MemPlace} (hval:Value.okWide Tryz.prog w r b0 22 v) (hd:DataW.Trod enc Tryz.prog w 0 (λ _=>true) true 22 v d ps) :
    ∃ (A:Option Addr) (n cap:Nat) (xs:List Int),v=.slice A n cap /\ n <= 9223372036854775807 /\ ArgL (worldF w) A n xs /\ n <= cap:=by
  obtain ⟨a0,len,cap,rfl⟩:=okWide_slice Tryz.underlying22 hval
  obtain ⟨fuel,hf⟩:=hd
  rcases open_ints Tryz.underlying22 Tryz.underlying3 (by kernel_rfl) hf with ⟨hcs,hx⟩ | ⟨a,len',cap',zs,hcs,_,hl,hm,hz,hx,hcell,hwz⟩
  · simp [Value.cells] at hcs
    obtain ⟨rfl,rfl,rfl⟩:=hcs
    exact ⟨none,0,0,[],rfl,by omega,.zero _,Nat.le_refl _⟩
  · simp [Value.cells] at hcs
    obtain ⟨rfl,rfl,rfl⟩:=hcs
    unfold maxLen at hm
    simp at hz
    rcases Nat.eq_zero_or_pos len with h0 | hpos
    · subst h0
      exact ⟨some a,0,_,[],rfl,by omega,.zero _,Nat.zero_le _⟩
    · have hlz:len <= zs.length:=by omega
      obtain ⟨b,off,spot⟩:=a
      have c0:=hcell 0 (by omega)
      have hsp:spot=none:=by
        cases spot with
        | none=>rfl
        | some s=>simp [Addr.add,World.cell?] at c0;split at c0 <;> simp at c0
      subst hsp
      have hc:∀ i,i < zs.length -> w.cell? ⟨b,off+i,none⟩=some (.int .i64 (zs.getD i 0)):=λ i hi=>by
        have:=hcell i hi
        unfold Addr.add at this
        by_cases h:i=0
        · subst h;simpa using this
        · rw [if_neg h] at this;exact this
      have h0:=hc 0 (by omega)
      unfold World.cell? at h0
      split at h0
      case h_2=>cases h0
      rename_i cs ty fz hb
      refine ⟨some ⟨b,off,none⟩,len,cap,zs.take len,rfl,by omega,?_,hl⟩
      have hlen:(zs.take len).length=len:=by rw [List.length_take];omega
      have hcs:∀ k,k < len -> cs[off+k]?=some (vI ((zs.take len).getD k 0)):=λ k hk=>by
        have h1:=hc k (by omega)
        unfold World.cell? at h1
        rw [show w.heap[(⟨b,off+k,none⟩:Addr).block]?=some (.cells cs ty fz) from hb] at h1
        have h2:cs[off+k]?=some (.int .i64 (zs.getD k 0)):=by simpa using h1
        rw [h2]
        simp [List.getD_eq_getElem?_getD,List.getElem?_take,hk]
      have hmem:=worldF_mem hb
      have hle:off+len <= cs.size:=by
        have h1:=hcs (len - 1) (by omega)
        have h2:=(Array.getElem?_eq_some_iff.1 h1).1
        omega
      have:=ArgL.cells (F:=worldF w) b off cs.size (λ i _=>cs.getD i default) ty fz (zs.take len) hmem (by rw [hlen];exact hle) (λ k hk=>by
        rw [hlen] at hk
        have h1:=hcs k hk
        simp only [Array.getD_eq_getD_getElem?]
        rw [h1];rfl) (λ k hk=>by
        rw [hlen] at hk
        have:(zs.take len).getD k 0 ∈ zs:=by
          rw [List.getD_eq_getElem?_getD,List.getElem?_eq_getElem (by omega)]
          exact List.mem_of_mem_take (List.getElem_mem _)
        exact int_range (hwz _ this))
      rw [hlen] at this
      exact this
end Go.Proofs.YtcfajdgeejeieaaGreatDoor
