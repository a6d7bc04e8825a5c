import Derived.Test.YtgdcbiiopbpgaaaGreatDoorY47
set_option maxHeartbeats 4000000
set_option maxRecDepth 100000
set_option linter.unusedSimpArgs false
set_option linter.unusedVariables false
namespace Go.Proofs.YtgdcbiiopbpgaaaGreatDoor
open Go.RowKit
theorem CY (l:List Int) (A:Option Addr) (n c q:Nat) (lp:Nat) (X F:HL) (J:Nat -> HL -> Prop) (Jx:HL -> Prop) (T0:HL) (hb:n <= 1000000) (hl:RowL lS 5 F A n l) (hq:(q,.lit [.slice A n c] 50 (0,0)) ∈ F) (hY:∀ i x H Y,(bu l)[i]?=some x -> J i H -> YL Tryz.prog lp (HJ x) H (Y++(X++F)) (λ b H'=>(b=true /\ J (i+1) H') \/ (b=false /\ Jx H'))) (hJ0:J 0 T0):Sp Tryz.prog 77 #[.func (.yield lp) #[] #[],vP q 0] (ap [] [T0]) (X++F) (λ _ H'=>J (bu l).length H' \/ Jx H'):=by
 have hln_:=hl.len
 refine Sp.run Tryz.func77 rfl (mc (List.mem_append_right _ hq) mn) (A:=[]) (Ts:=[T0]) rfl λ w0=>?_
 refine ae 6 [] λ _=>RN.loop (σ:=Nat × HL) (λ ⟨i,T_⟩=>⟨[(0,.func (.yield lp) #[] #[]),(1,vP q 0),(3,vI (8 * (i:Int)))],[],[T_],i <= kC l /\ J i T_,kC l - i⟩) (0,T0) [] [0] (⟨Nat.zero_le _,hJ0⟩) ?_
 rintro ⟨i,T_⟩ ⟨hi_,hJ_⟩ mt2
 refine ae 9 [.ro 0] λ _=>RN.em (8 * (i:Int) < (n:Int)) 9 (λ h3=>?_) λ h3=>?_
 ·refine ae 17 [] λ _=>RN.loop (σ:=Nat) (λ k=>⟨[(0,.func (.yield lp) #[] #[]),(1,vP q 0),(3,vI (8 * (i:Int))),(4,.int .u64 (oN l i k)),(5,vI (k:Int))],[],[T_],k <= 8 /\ 8 * i+k <= n,8 - k⟩) 0 [] [0] (⟨by omega,by omega⟩) ?_
  rintro k ⟨hk_,hk2_⟩ mt5
  refine ae 6 [] λ _=>RN.em ((k:Int) < 8) 14 (λ h6=>?_) λ h6=>?_
  ·refine ai 9 [.nw,.ro 0] [bd ((8 * (i:Int))+(k:Int))] λ _=>RN.em ((8 * (i:Int))+(k:Int) < (n:Int)) 21 (λ h7=>?_) λ h7=>?_
   ·refine ai 11 [.ro 0,.nw] [bd ((8 * (i:Int))+(k:Int))] λ _=>?_
    obtain ⟨qx8,ox8,Nx8,fx8,fzx8,hAx8,hqx8,hox8,hgx8⟩:=(hl.up (X:=X)).at (k:=(8 * i+k)) (by omega)
    refine aJ 25 (congrArg (λ v_=>(.slice v_ n c:Value)) hAx8)<|RN.ro (λ _=>(mc (List.mem_append_right _ hq) (mc hqx8 mn)))<|ai 2 [.ix (8 * i+k),.rorow 1 (ox8+(8 * i+k)) 0] [(ox8 * 1+(8 * i+k) * 1)=(ox8+(8 * i+k)) * 1+0 /\ (ox8+(8 * i+k)) < Nx8,(8 * (i:Int))+(k:Int)=(((8 * i+k):Nat):Int) /\ (8 * i+k) < n] λ _=>aJ 30 (congrArg (λ v_=>(.int .u8 v_:Value)) hgx8)<|ai 14 [.nw,.dv,.gen,.nw] [bd ((k:Int)+1),0 <= 8 * (k:Int),bd (8 * (k:Int))] λ _=>?_
    refine mt5 (k+1) [] [0] ?_
    try dsimp only
    exact ⟨⟨by omega,by omega⟩,by omega⟩
   ·obtain rfl:k=J4 l i:=by unfold J4;omega
    refine ae 10 [] λ _=>RN.yield 0 (hY i (oN l i (J4 l i)) _ _ (pk (by omega)) hJ_) ?_
    rintro b_ T9 (⟨rfl,hJ10⟩ | ⟨rfl,hJ10⟩)
    ·refine ai 12 [.gen,.nw] [bd ((8 * (i:Int))+8)] λ _=>aJ 3 (congrArg (λ v_=>(vI v_:Value)) (show (8 * (i:Int)+8)=8 * ((i+1:Nat):Int) by omega)) ?_
     refine mt2 (i+1,T9) [] [0] ?_
     try dsimp only
     exact ⟨⟨by unfold kC at *;omega,hJ10⟩,by unfold kC at *;omega⟩
    ·refine ae 4 [] λ _=>RN.ret [] [] [0] (v:=.tuple #[]) (H':=(ap [] [T9])) ?_
     rw [bC]
     exact .inr hJ10
  ·obtain rfl:k=J4 l i:=by unfold J4;omega
   refine ae 19 [] λ _=>RN.yield 0 (hY i (oN l i (J4 l i)) _ _ (pk (by omega)) hJ_) ?_
   rintro b_ T11 (⟨rfl,hJ12⟩ | ⟨rfl,hJ12⟩)
   ·refine ai 12 [.gen,.nw] [bd ((8 * (i:Int))+8)] λ _=>aJ 3 (congrArg (λ v_=>(vI v_:Value)) (show (8 * (i:Int)+8)=8 * ((i+1:Nat):Int) by omega)) ?_
    refine mt2 (i+1,T11) [] [0] ?_
    try dsimp only
    exact ⟨⟨by unfold kC at *;omega,hJ12⟩,by unfold kC at *;omega⟩
   ·refine ae 4 [] λ _=>RN.ret [] [] [0] (v:=.tuple #[]) (H':=(ap [] [T11])) ?_
    rw [bC]
    exact .inr hJ12
 ·obtain rfl:i=kC l:=by unfold kC at *;omega
  refine ae 5 [] λ _=>RN.ret [] [] [0] (v:=.tuple #[]) (H':=(ap [] [T_])) ?_
  rw [bC]
  exact .inl (by rw [k9];exact hJ_)
theorem xq (l:List Int) (A:Option Addr) (n c q:Nat) (F:HL) (hb:n <= 1000000) (hl:RowL lS 5 F A n l) (hq:(q,.lit [.slice A n c] 50 (0,0)) ∈ F):It Tryz.prog 77 #[vP q 0] F HJ (bu l):=by
 intro X lp J Jx H0 hY h0
 have key:=CY l A n c q lp X F J Jx H0 hb hl hq hY h0
 rw [bC] at key
 exact key
theorem CZ (A:Option Addr) (n c:Nat) (F:HL):Sp Tryz.prog 45 #[.slice A n c] [] F (λ u H'=>∃ m:Nat,H'=ap [((m+0),.lit [.slice A n c] 50 (0,0))] [] /\ u=.func (.func 77) #[] #[vP (m+0) 0]):=by
 refine Sp.run Tryz.func45 rfl mn (A:=[]) (Ts:=[]) rfl λ w0=>?_
 refine ae 12 [] λ n1=>RN.ret [] [0] [] (v:=.func (.func 77) #[] #[vP (n1+0) 0]) (H':=(ap [((n1+0),.lit [.slice A n c] 50 (0,0))] [])) ?_
 exact ⟨_,rfl,rfl⟩
theorem xr (A:Option Addr) (n c:Nat) (F:HL):Sp Tryz.prog 45 #[.slice A n c] (ap [] []) F (λ u H'=>∃ m:Nat,H'=ap [((m+0),.lit [.slice A n c] 50 (0,0))] [] /\ u=.func (.func 77) #[] #[vP (m+0) 0]):=CZ A n c F
theorem zn (b:ByteArray) (l:List Int) (A:Option Addr) (n c:Nat) (F:HL) (hbb:b.size <= 1000000) (hb:n <= 1000000) (hl:RowL lS 5 F A n l):Sp Tryz.prog 18 #[.string b,.slice A n c] [] F (λ u H'=>u=.int .u64 (oO b l) /\ H'=[]):=by
 have hln_:=hl.len
 refine Sp.runM Tryz.func18 rfl mn (A:=[]) (Ts:=[]) rfl λ w0=>?_
 refine ai 22 [.nw,.nw] [0 <= (n:Int) /\ (0:Int) < 8 /\ (n:Int) <= 9223372036854775807,0 <= (n:Int) /\ (0:Int) < 8 /\ (n:Int) <= 9223372036854775807] λ _=>RN.en ((n:Int) % 8=0) 14 (λ h1=>?_) λ h1=>?_
 ·refine ai 8 [.nw] [bd (((n:Int) / 8)+1)] λ _=>aJ 19 (congrArg (λ v_=>(vI v_:Value)) (show ((n:Int) / 8)+1=((kC l:Nat):Int)+1 by unfold kC;omega))<|aj (iB b (((kC l:Nat):Int)+1) _ hbb)<|ae 8 [.own 0] λ n2=>RN.ct (Hp:=[]) (Tp:=[]) [] [] (xr A n c _) ?_
  rintro _ m3 rfl
  refine ae 3 [] λ _=>RN.range (σ:=Nat) (τ:=Nat × Int) (encs:=λ (x_:Int)=>#[.int .u64 x_]) (xs:=(bu l)) (enters_of Tryz.func77 (by kernel_rfl) rfl) (λ m_=>([((n2+0),.lit [.int .u64 (fC (cH b (((kC l:Nat):Int)+1)) (bu l) m_)] 45 (0,0))],[])) (λ i_ m_=>m_=i_) (λ c_ m_=>False) (λ ⟨m_,y_⟩=>⟨[(1,.slice A n c),(6,vP (n2+0) 0),(7,.int .u64 y_)],[((n2+0),.lit [.int .u64 (fC (cH b (((kC l:Nat):Int)+1)) (bu l) m_)] 45 (0,0))],[],True,0⟩) (λ i_ x_ ⟨m_,y_⟩=>m_=i_ /\ y_=x_) 0 rfl [1] [] (xq l A n c (m3+0) _ hb (hl.mono λ x hx=>aw hx) (aB 0)) ?_ ?_ ?_ ?_
  ·rintro l_ i_ x_ m_ Y4 w5 hx6 rfl mt7
   refine ae 3 [] λ _=>?_
   refine mt7 (m_,x_) [0] [] ?_
   try dsimp only
   exact ⟨rfl,rfl⟩
  ·rintro l_ i_ x_ ⟨m_,y_⟩ Y8 w9 hx10 ⟨rfl,ey_⟩
   refine ae 4 [.own 0] λ _=>aj (eE (fC (cH b (((kC l:Nat):Int)+1)) (bu l) m_) y_ _)<|ae 3 [.own 0] λ _=>?_
   have e_:fC (cH b (((kC l:Nat):Int)+1)) (bu l) (m_+1)=jA (fC (cH b (((kC l:Nat):Int)+1)) (bu l) m_) y_:=by rw [fC,ey_,qa hx10]
   refine cR 0 (congrArg (λ v_=>(.lit [.int .u64 v_] 45 (0,0):Blk)) e_.symm)<|RN.rn (m_+1) [0] [] ?_
   try dsimp only
   first | done | rfl
  ·rintro d11 m_  rfl
   refine ae 8 [.own 1] λ _=>aj (eE (fC (cH b (((kC l:Nat):Int)+1)) (bu l) (bu l).length) (IntKind.u64.wrap (n:Int)) _)<|aj (eE (jA (fC (cH b (((kC l:Nat):Int)+1)) (bu l) (bu l).length) (IntKind.u64.wrap (n:Int))) 0 _)<|ae 3 [] λ _=>RN.retM [d11] [0] [] [] [] (v:=.int .u64 (jA (jA (fC (cH b (((kC l:Nat):Int)+1)) (bu l) (bu l).length) (IntKind.u64.wrap (n:Int))) 0)) (H':=[]) ?_
   exact ⟨by rw [k9,<- hln_];rfl,rfl⟩
  ·exact λ _ _ _ h=>h.elim
 ·refine ai 12 [.nw,.nw] [bd ((((n:Int) / 8)+1)+1),bd (((n:Int) / 8)+1)] λ _=>aJ 19 (congrArg (λ v_=>(vI v_:Value)) (show (((n:Int) / 8)+1)+1=((kC l:Nat):Int)+1 by unfold kC;omega))<|aj (iB b (((kC l:Nat):Int)+1) _ hbb)<|ae 8 [.own 0] λ n12=>RN.ct (Hp:=[]) (Tp:=[]) [] [] (xr A n c _) ?_
  rintro _ m13 rfl
  refine ae 3 [] λ _=>RN.range (σ:=Nat) (τ:=Nat × Int) (encs:=λ (x_:Int)=>#[.int .u64 x_]) (xs:=(bu l)) (enters_of Tryz.func77 (by kernel_rfl) rfl) (λ m_=>([((n12+0),.lit [.int .u64 (fC (cH b (((kC l:Nat):Int)+1)) (bu l) m_)] 45 (0,0))],[])) (λ i_ m_=>m_=i_) (λ c_ m_=>False) (λ ⟨m_,y_⟩=>⟨[(1,.slice A n c),(6,vP (n12+0) 0),(7,.int .u64 y_)],[((n12+0),.lit [.int .u64 (fC (cH b (((kC l:Nat):Int)+1)) (bu l) m_)] 45 (0,0))],[],True,0⟩) (λ i_ x_ ⟨m_,y_⟩=>m_=i_ /\ y_=x_) 0 rfl [1] [] (xq l A n c (m13+0) _ hb (hl.mono λ x hx=>aw hx) (aB 0)) ?_ ?_ ?_ ?_
  ·rintro l_ i_ x_ m_ Y14 w15 hx16 rfl mt17
   refine ae 3 [] λ _=>?_
   refine mt17 (m_,x_) [0] [] ?_
   try dsimp only
   exact ⟨rfl,rfl⟩
  ·rintro l_ i_ x_ ⟨m_,y_⟩ Y18 w19 hx20 ⟨rfl,ey_⟩
   refine ae 4 [.own 0] λ _=>aj (eE (fC (cH b (((kC l:Nat):Int)+1)) (bu l) m_) y_ _)<|ae 3 [.own 0] λ _=>?_
   have e_:fC (cH b (((kC l:Nat):Int)+1)) (bu l) (m_+1)=jA (fC (cH b (((kC l:Nat):Int)+1)) (bu l) m_) y_:=by rw [fC,ey_,qa hx20]
   refine cR 0 (congrArg (λ v_=>(.lit [.int .u64 v_] 45 (0,0):Blk)) e_.symm)<|RN.rn (m_+1) [0] [] ?_
   try dsimp only
   first | done | rfl
  ·rintro d21 m_  rfl
   refine ae 8 [.own 1] λ _=>aj (eE (fC (cH b (((kC l:Nat):Int)+1)) (bu l) (bu l).length) (IntKind.u64.wrap (n:Int)) _)<|aj (eE (jA (fC (cH b (((kC l:Nat):Int)+1)) (bu l) (bu l).length) (IntKind.u64.wrap (n:Int))) 0 _)<|ae 3 [] λ _=>RN.retM [d21] [0] [] [] [] (v:=.int .u64 (jA (jA (fC (cH b (((kC l:Nat):Int)+1)) (bu l) (bu l).length) (IntKind.u64.wrap (n:Int))) 0)) (H':=[]) ?_
   exact ⟨by rw [k9,<- hln_];rfl,rfl⟩
  ·exact λ _ _ _ h=>h.elim
def rJ:Enc Int:=⟨1,λ p k=>match k with | 0=>vI p | _=>default,0⟩
noncomputable def ND:TypeInfo:=match Tryz.prog.info? 3 with | some i=>i | none=>⟨.bool,"",0,0,false,0,0,none,false,#[]⟩
noncomputable def NE:Value:=match ND.zero with | some z=>z | none=>.bool false
theorem AY:EncOk rJ Tryz.prog 3 ND NE where
 info:=by kernel_rfl
 zero:=by kernel_rfl
 size:=by kernel_rfl
 zsize:=by kernel_rfl
 zcell:=λ k hk=>by
  have h:∀ k < 1,NE.cells[k]?=some (rJ.cell rJ.dflt k):=by intro k hk;(iterate 1 (rcases k with _ | k;· kernel_rfl));omega
  exact h k hk
 one:=λ x k=>by unfold rJ;dsimp only;split <;> rfl
 bytes:=Nat.le_of_ble_eq_true (by kernel_rfl)
theorem tE (b:ByteArray) (xs:List Int) (A:Option Addr) (n c:Nat) (F:HL) (hbb:b.size <= 1000000) (hb:n <= 1000000) (hl:RowL rJ 3 F A n xs):Sp Tryz.prog 16 #[.string b,.slice A n c] [] F (λ u H'=>u=.int .u64 (ky b xs) /\ H'=[]):=by
 have hln_:=hl.len
 refine Sp.run Tryz.func16 rfl mn (A:=[]) (Ts:=[]) rfl λ w0=>?_
 refine ae 10 [] λ _=>aj (iB b (n:Int) _ hbb)<|ae 12 [] λ _=>RN.loop (σ:=Nat) (λ k=>⟨[(5,.int .u64 (tV (cH b (n:Int)) xs k)),(12,.slice A n c),(13,vI (n:Int)),(14,vI (k:Int))],[],[],k <= n,n - k⟩) 0 [] [] (Nat.zero_le _) ?_
 rintro k hk_ mt2
 refine ae 6 [] λ _=>RN.em ((k:Int) < (n:Int)) 15 (λ h3=>?_) λ h3=>?_
 ·refine ae 7 [] λ _=>?_
  obtain ⟨qx4,ox4,Nx4,fx4,fzx4,hAx4,hqx4,hox4,hgx4⟩:=hl.at (k:=k) (by omega)
  refine aJ 12 (congrArg (λ v_=>(.slice v_ n c:Value)) hAx4)<|RN.ro (λ _=>(mc hqx4 mn))<|ai 2 [.ix k,.rorow 0 (ox4+k) 0] [(ox4 * 1+k * 1)=(ox4+k) * 1+0 /\ (ox4+k) < Nx4,(k:Int)=((k:Nat):Int) /\ k < n] λ _=>aJ 17 (congrArg (λ v_=>(vI v_:Value)) hgx4)<|ae 7 [] λ _=>aj (eE (tV (cH b (n:Int)) xs k) (IntKind.u64.wrap (xs.getD k 0)) _)<|ai 8 [.nw] [bd ((k:Int)+1)] λ _=>aJ 12 (congrArg (λ v_=>(.slice v_ n c:Value)) hAx4.symm) ?_
  refine mt2 (k+1) [] [] ?_
  try dsimp only
  exact ⟨by omega,by omega⟩
 ·refine ae 9 [] λ _=>aj (eE (tV (cH b (n:Int)) xs k) 0 _)<|ae 3 [] λ _=>RN.ret [] [] [] (v:=.int .u64 (jA (tV (cH b (n:Int)) xs k) 0)) (H':=[]) ?_
  obtain rfl:k=n:=by omega
  exact ⟨by unfold ky;rw [hln_],rfl⟩
def xt (cs:List Value):Nat -> Nat -> Value:=λ i k=>match k with | 0=>cs.getD i default | _=>default
theorem NF:∀ cs:List Value,bA 1 (xt cs) cs.length=cs:=λ cs=>by
 have h:∀ n,n <= cs.length -> bA 1 (xt cs) n=cs.take n:=λ n=>by
  induction n with
  | zero=>intro _;rfl
  | succ n ih =>
   intro hn
   rw [bA,ih (by omega),List.take_add_one,List.getElem?_eq_getElem (by omega)]
   simp [xt,List.getD_eq_getElem?_getD,List.getElem?_eq_getElem (show n < cs.length by omega),List.range_one]
 rw [h _ (Nat.le_refl _),List.take_length]
def OT:Nat × Blk -> Nat × Blk
 | (b,.lit cs ty fz)=>(b,.rows 1 cs.length (xt cs) ty fz)
 | x=>x
theorem Jo (F:HL):dJ (F.map OT)=dJ F:=by
 unfold dJ
 rw [List.map_map]
 refine List.map_congr_left λ x _=>?_
 obtain ⟨b,k⟩:=x
 cases k with
 | lit cs ty fz=>simp [OT,Blk.den,NF]
 | rows w n g ty fz=>rfl
 | obj o=>rfl
def nN (j k:Nat):List Int:=[bz j 0,bz j 1,bz j 2]++((fF j).take k).flatMap λ x=>[x.op,x.n]
theorem rx {j k:Nat} (h:k < (fF j).length):nN j (k+1)=nN j k++[((fF j).getD k dIns).op,((fF j).getD k dIns).n]:=by
 unfold nN
 rw [lF h dIns,List.flatMap_append]
 simp
theorem lJ {j:Nat}:∀ k,k <= (fF j).length -> (nN j k).length=3+2 * k
 | 0,_=>rfl
 | k+1,h=>by
  rw [rx (by omega),List.length_append,lJ k (by omega)]
  simp
  omega
def xu (j:Nat):Int:=ky ⟨#[112,114,111,103,114,97,109]⟩ (nN j (cB j))
theorem xv (h:Nat):iT [.int .i64 0]=aZ rJ (List.replicate h 0):=by
 have e:=jD (e:=rJ) ([]:List Int) h
 rw [List.nil_append] at e
 rw [show List.replicate h (0:Int)=List.replicate h rJ.dflt from rfl,e]
 funext i k
 cases k with
 | zero=>rfl
 | succ k=>simp [iT,aZ,rJ]
theorem ry {h:Nat} {b:Nat} {T:TypeId}:SlIs rJ T [] (some ⟨b,0,none⟩) h [(b,.rows 1 h (aZ rJ (List.replicate h 0)) T (0,0))]:=.inr ⟨b,0,List.replicate h 0,by simp,by rw [Nat.zero_add];rfl,by simp,Nat.zero_le _,rfl⟩
theorem SrcIn.off {P:Program} {F:HL} {q o:Nat} {xs:List Int} {cs:List Value} {ty:TypeId} {fz:Nat × Nat} (hq:(q,.lit cs ty fz) ∈ F) (hc:∀ j,j < xs.length -> cs[o+j]?=some (vI (xs.getD j 0))):SrcIn P rJ F (some ⟨q,o,Option.none⟩) xs.length xs:=by
 have hlen:(ay rJ xs).length=xs.length:=by rw [bg];exact Nat.mul_one _
 have bK:∀ j,j < xs.length -> (ay rJ xs)[j]?=some (vI (xs.getD j 0)):=λ j hj=>by
  rw [mv (e:=rJ) xs (by decide) (by rw [show rJ.w=1 from rfl];omega)]
  rw [show rJ.w=1 from rfl,Nat.div_one,Nat.mod_one]
  rfl
 refine ⟨⟨rfl,λ h=>by cases h⟩,λ c hk X w hR=>Src.ofSlice w hk _ _ _ _ (by rw [hlen];exact (Nat.mul_one _).symm) ?_ ?_⟩
 ·intro j u hj
  have hl:j < xs.length:=by rw [<- hlen];exact (List.getElem?_eq_some_iff.1 hj).1
  rw [bK j hl] at hj
  obtain rfl:=Option.some.inj hj
  have hb:=hR.holds _ (List.mem_append_right X hq)
  simp only [Blk.den] at hb
  rw [Addr.add_lit]
  simp [World.cell?,hb,hc j hl]
 ·intro u hu
  simp only [ay,List.mem_flatMap,List.mem_map] at hu
  obtain ⟨x,_,k,_,rfl⟩:=hu
  exact AY.one x k
def NG (F:HL) (j:Nat) (A:Option Addr):Prop:=0 < cB j -> ∃ b rest,A=some ⟨b,0,none⟩ /\ (b,Blk.rows 1 (oH j++rest).length (xt (oH j++rest)) 155 (0,0)) ∈ F
theorem InsW.r {F:HL} {j:Nat} {A:Option Addr} (h:InsW F j A):NG (F.map OT) j A:=λ h0=>by
 obtain ⟨b,rest,h1,h2⟩:=h h0
 exact ⟨b,rest,h1,List.mem_map.2 ⟨_,h2,rfl⟩⟩
theorem LG {j:Nat} (hj:j < 5) (rest:List Value) {k:Nat} (hk:k < cB j):(.agg #[(oH j++rest).getD (k * 2) default,(oH j++rest).getD (1+k * 2) default]:Value)=.agg #[vI ((fF j).getD k dIns).op,vI ((fF j).getD k dIns).n]:=by
 have hl:=kY hj
 have e:∀ m,m < 2 -> (oH j++rest).getD (m+k * 2) default=gR.cell ((fF j).getD k dIns) m:=λ m hm=>by
  rw [mI hj,List.getD_eq_getElem?_getD,List.getElem?_append_left (by rw [bg,show gR.w=2 from rfl];omega),mv (e:=gR) (fF j) (by decide) (by rw [show gR.w=2 from rfl];omega),show gR.w=2 from rfl,show (m+k * 2) / 2=k by omega,show (m+k * 2) % 2=m by omega]
  rfl
 have e0:=e 0 (by decide)
 rw [Nat.zero_add] at e0
 rw [e0,e 1 (by decide)]
 rfl
theorem C0 (j:Nat) (A:Option Addr) (c:Nat) (F:HL) (hj:j < 5) (hw:NG F j A):Sp Tryz.prog 44 #[.agg #[.slice A (cB j) c,vI (bz j 0),vI (bz j 1),vI (bz j 2)]] [] F (λ u H'=>u=.int .u64 (xu j) /\ H'=[]):=by
 have hl_:=kY hj
 have hl32_:=pR hj
 refine Sp.run Tryz.func44 rfl mn (A:=[]) (Ts:=[]) rfl λ w0=>?_
 refine ai 22 [.own 0,.nw,.nw,.mk 0 ((3+(2 * (((cB j):Nat):Int))).toNat)] [0=((0:Nat):Int) /\ 3+(2 * (((cB j):Nat):Int))=(((3+(2 * (((cB j):Nat):Int))).toNat:Nat):Int) /\ 0 <= (3+(2 * (((cB j):Nat):Int))).toNat /\ 8 * ((3+(2 * (((cB j):Nat):Int))).toNat) <= 140737488355328 /\ 1=1 /\ (3+(2 * (((cB j):Nat):Int))).toNat <= 9223372036854775807,bd (3+(2 * (((cB j):Nat):Int))),bd (2 * (((cB j):Nat):Int))] λ n1=>cR 0 (congrArg (λ v_=>(.rows 1 ((3+(2 * (((cB j):Nat):Int))).toNat) v_ 3 (0,0):Blk)) (show (iT [vI 0])=(aZ rJ (List.replicate ((3+(2 * (((cB j):Nat):Int))).toNat) 0)) from (xv _)))<|tp 0<|RN.appU (c':=3) (tx:=22) AY ([]:List Int) ([bz j 0,bz j 1,bz j 2]) 0 rfl (ry (h:=(3+(2 * (((cB j):Nat):Int))).toNat) (b:=(n1+1)) (T:=3)) (Nat.le_of_ble_eq_true rfl) (SrcIn.off (q:=(n1+0)) (o:=1) (ty:=109) (fz:=(0,0)) (cs:=[.slice A (cB j) c,vI (bz j 0),vI (bz j 1),vI (bz j 2)]) (aB 0) (λ j_ hj_=>by obtain rfl | rfl | rfl:j_=0 \/ j_=1 \/ j_=2:=by { have:j_ < 3:=hj_;omega } <;> rfl)) ?_
 rintro A2 c3 T4 ⟨hs5,hz6⟩
 refine ae 13 [.own 0] λ _=>RN.loop (σ:=Nat × Option Addr × Nat × HL) (λ ⟨k_,A_,c_,T_⟩=>⟨[(3,.slice A_ (3+2 * k_) c_),(17,.slice A (cB j) c),(18,vI (((cB j):Nat):Int)),(19,vI (k_:Int))],[((n1+0),.lit [.slice A (cB j) c,vI (bz j 0),vI (bz j 1),vI (bz j 2)] 109 (0,0))],[T_],k_ <= cB j /\ SlIs rJ 3 (nN j k_) A_ c_ T_,cB j - k_⟩) (0,A2,c3,T4) [0] [0] (⟨Nat.zero_le _,hs5⟩) ?_
 rintro ⟨k_,A_,c_,T_⟩ ⟨hk_,hs_⟩ mt8
 refine ae 6 [] λ _=>RN.em ((k_:Int) < (((cB j):Nat):Int)) 20 (λ h9=>?_) λ h9=>?_
 ·refine ae 7 [] λ _=>?_
  obtain ⟨qi,rst,hAi,hqi⟩:=hw (by omega)
  refine aJ 17 (congrArg (λ v_=>(.slice v_ (cB j) c:Value)) hAi)<|RN.ro (λ _=>(mc hqi mn)) ?_
  have hcl_:2 * cB j <= (oH j++rst).length:=by rw [List.length_append,mI hj,bg,kY hj,show gR.w=2 from rfl];omega
  refine ai 2 [.ix k_,.rorow 0 (k_ * 2) 0,.rorow 0 (1+k_ * 2) 0] [((0+k_ * 2)+1)=(1+k_ * 2) * 1+0 /\ (1+k_ * 2) < ((oH j++rst).length),(0+k_ * 2)=k_ * 2 * 1+0 /\ k_ * 2 < ((oH j++rst).length),(k_:Int)=((k_:Nat):Int) /\ k_ < (cB j)] λ _=>aJ 22 (LG hj rst (k:=k_) (by omega))<|ae 11 [.own 0,.own 0,.own 0,.own 0] λ n10=>gD AY (nN j k_) [((fF j).getD k_ dIns).op,((fF j).getD k_ dIns).n] 0 0 (lJ k_ (by omega)).symm hs_ (by rw [lJ k_ (by omega)];show _+2 <= _;omega) ?_
  rintro A11 c12 T13 ⟨hs14,hz15⟩
  refine ai 8 [.nw] [bd ((k_:Int)+1)] λ _=>aJ 17 (congrArg (λ v_=>(.slice v_ (cB j) c:Value)) hAi.symm) ?_
  refine mt8 (k_+1,A11,c12,T13) [2] [0] ?_
  try dsimp only
  exact ⟨⟨by omega,by rw [rx (by omega)];exact hs14⟩,by omega⟩
 ·refine ae 9 [] λ _=>aj (tE ⟨#[112,114,111,103,114,97,109]⟩ (nN j k_) A_ (3+2 * k_) c_ _ (by decide) (by omega) (hs_.rowN (aA 0) (lJ k_ (by omega))))<|ae 3 [] λ _=>RN.ret [] [] [] (v:=.int .u64 (ky ⟨#[112,114,111,103,114,97,109]⟩ (nN j k_))) (H':=[]) ?_
  obtain rfl:k_=cB j:=by omega
  exact ⟨rfl,rfl⟩
theorem C1 (j:Nat) (A:Option Addr) (c:Nat) (F:HL) (hj:j < 5) (hw:InsW F j A):Sp Tryz.prog 44 #[.agg #[.slice A (cB j) c,vI (bz j 0),vI (bz j 1),vI (bz j 2)]] [] F (λ u H'=>u=.int .u64 (xu j) /\ H'=[]):=(C0 j A c _ hj hw.r).den (Jo F)
def nO (tt:Nat -> Int) (jj:Nat -> Nat) (k:Nat):List Int:=(List.range k).flatMap λ i=>[tt i,IntKind.i64.wrap (xu (jj i))]
theorem rz (tt:Nat -> Int) (jj:Nat -> Nat) (k:Nat):nO tt jj (k+1)=nO tt jj k++[tt k,IntKind.i64.wrap (xu (jj k))]:=by simp [nO,List.range_succ]
theorem lK (tt:Nat -> Int) (jj:Nat -> Nat):∀ k,(nO tt jj k).length=2 * k
 | 0=>rfl
 | k+1=>by
  rw [rz,List.length_append,lK tt jj k]
  simp
  omega
def J5 (tt:Nat -> Int) (jj:Nat -> Nat) (n:Nat):Int:=ky ⟨#[98,111,111,107]⟩ (nO tt jj n)
theorem C2 (bp:Nat) (A:Option Addr) (n c:Nat) (vs:List Ver) (tt:Nat -> Int) (jj:Nat -> Nat) (F:HL) (hbp:(bp,.lit [.slice A n c] 105 (0,0)) ∈ F) (hl:RowL fh 111 F A n vs) (hn:n <= 1000) (hv:∀ k,k < n -> ∃ Av cv,vs.getD k fh.dflt=jR (tt k) (jj k) Av cv /\ jj k < 5 /\ InsW F (jj k) Av):Sp Tryz.prog 17 #[vP bp 0] [] F (λ u H'=>u=.int .u64 (J5 tt jj n) /\ H'=[]):=by
 refine Sp.run Tryz.func17 rfl (mc hbp mn) (A:=[]) (Ts:=[]) rfl λ w0=>?_
 refine ai 29 [.ro 0,.nw,.mk 0 ((2 * (n:Int)).toNat),.ro 0] [0=((0:Nat):Int) /\ 2 * (n:Int)=(((2 * (n:Int)).toNat:Nat):Int) /\ 0 <= (2 * (n:Int)).toNat /\ 8 * ((2 * (n:Int)).toNat) <= 140737488355328 /\ 1=1 /\ (2 * (n:Int)).toNat <= 9223372036854775807,bd (2 * (n:Int))] λ n1=>cR 0 (congrArg (λ v_=>(.rows 1 ((2 * (n:Int)).toNat) v_ 3 (0,0):Blk)) (show (iT [vI 0])=(aZ rJ (List.replicate ((2 * (n:Int)).toNat) 0)) from (xv _)))<|tp 0<|RN.loop (σ:=Nat × Option Addr × Nat × HL) (λ ⟨k_,A_,c_,T_⟩=>⟨[(3,.slice A_ (2 * k_) c_),(16,.slice A n c),(17,vI (n:Int)),(18,vI (k_:Int))],[],[T_],k_ <= n /\ SlIs rJ 3 (nO tt jj k_) A_ c_ T_,n - k_⟩) (0,some ⟨(n1+0),0,none⟩,(2 * (n:Int)).toNat,[((n1+0),.rows 1 ((2 * (n:Int)).toNat) (aZ rJ (List.replicate ((2 * (n:Int)).toNat) 0)) 3 (0,0))]) [] [0] (⟨Nat.zero_le _,ry⟩) ?_
 rintro ⟨k_,A_,c_,T_⟩ ⟨hk_,hs_⟩ mt3
 refine ae 6 [] λ _=>RN.em ((k_:Int) < (n:Int)) 19 (λ h4=>?_) λ h4=>?_
 ·refine ae 7 [] λ _=>?_
  obtain ⟨qx5,ox5,Nx5,fx5,fzx5,hAx5,hqx5,hox5,hgx5⟩:=hl.at (k:=k_) (by omega)
  refine aJ 16 (congrArg (λ v_=>(.slice v_ n c:Value)) hAx5)<|RN.ro (λ _=>(mc hbp (mc hqx5 mn)))<|ai 2 [.ix k_,.rorow 1 (ox5+k_) 0,.rorow 1 (ox5+k_) 1,.rorow 1 (ox5+k_) 2,.rorow 1 (ox5+k_) 3,.rorow 1 (ox5+k_) 4] [((ox5 * 5+k_ * 5)+4)=(ox5+k_) * 5+4 /\ (ox5+k_) < Nx5,((ox5 * 5+k_ * 5)+3)=(ox5+k_) * 5+3 /\ (ox5+k_) < Nx5,((ox5 * 5+k_ * 5)+2)=(ox5+k_) * 5+2 /\ (ox5+k_) < Nx5,((ox5 * 5+k_ * 5)+1)=(ox5+k_) * 5+1 /\ (ox5+k_) < Nx5,(ox5 * 5+k_ * 5)=(ox5+k_) * 5+0 /\ (ox5+k_) < Nx5,(k_:Int)=((k_:Nat):Int) /\ k_ < n] λ _=>aJ 21 (congrArg (λ v_=>(.agg #[vI v_.t,.slice v_.A v_.n v_.c,vI v_.e0,vI v_.e1,vI v_.e2]:Value)) hgx5) ?_
  obtain ⟨Av,cv,ev_,hj_,hw_⟩:=hv k_ (by omega)
  refine aJ 21 (congrArg (λ v_:Ver=>(.agg #[vI v_.t,.slice v_.A v_.n v_.c,vI v_.e0,vI v_.e1,vI v_.e2]:Value)) ev_)<|ae 4 (ow 0 5) λ n6=>RN.draw [8] []<|ag [] [0,1,3,2,4] (ow 0 5)<|ar [] 5 (λ X_=>(C1 (jj k_) Av cv _ hj_ (λ h0_=>(hw_ h0_).imp λ _ h1_=>h1_.imp λ _ h2_=>⟨h2_.1,pX h2_.2⟩)))<|ag [] [6] []<|RD.one 7 (RDO.ev [] [] λ n8=>?_)
  refine RD.one 8 (lm [] AY (nO tt jj k_) [tt k_,IntKind.i64.wrap (xu (jj k_))] 0 0 (lK tt jj k_).symm hs_ (by rw [lK];show _+2 <= _;omega) ?_)
  rintro A9 c10 T11 ⟨hs12,hz13⟩
  refine ag [] [9] []<|RD.fin<|ai 6 [.nw] [bd ((k_:Int)+1)] λ _=>aJ 16 (congrArg (λ v_=>(.slice v_ n c:Value)) hAx5.symm) ?_
  refine mt3 (k_+1,A9,c10,T11) [] [0] ?_
  try dsimp only
  exact ⟨⟨by omega,by rw [rz];exact hs12⟩,by omega⟩
 ·refine ae 9 [] λ _=>aj (tE ⟨#[98,111,111,107]⟩ (nO tt jj k_) A_ (2 * k_) c_ _ (by decide) (by omega) (hs_.rowN (aA 0) (lK tt jj k_)))<|ae 3 [] λ _=>RN.ret [] [] [] (v:=.int .u64 (ky ⟨#[98,111,111,107]⟩ (nO tt jj k_))) (H':=[]) ?_
  obtain rfl:k_=n:=by omega
  exact ⟨rfl,rfl⟩
def zo (tk:Int) (j1 j2:Nat):Int:=J5 (λ k=>if k=0 then 0 else tk) (λ k=>if k=0 then j1 else j2) 2
theorem LH {tk:Int} {j1 j2 bp:Nat} {TB F:HL} (hB:Book2 tk j1 j2 bp TB) (hT:∀ x ∈ TB,x ∈ F) (hj1:j1 < 5) (hj2:j2 < 5):Sp Tryz.prog 17 #[vP bp 0] [] F (λ u H'=>u=.int .u64 (zo tk j1 j2) /\ H'=[]):=by
 cases hB with
 | mk A c A1 A2 c1 c2 Hl T1 T2 hs h1 h2 =>
  refine C2 bp A 2 c _ _ _ F (hT _ (by simp [ap])) (hs.rowN (λ x hx=>hT x (by simp [ap,hx])) rfl) (by decide) (λ k hk=>?_)
  obtain rfl | rfl:k=0 \/ k=1:=by omega
  ·exact ⟨A1,c1,rfl,hj1,h1.wrd F λ x hx=>hT x (by simp [ap,hx])⟩
  ·exact ⟨A2,c2,rfl,hj2,h2.wrd F λ x hx=>hT x (by simp [ap,hx])⟩
theorem xw {b:ByteArray} {l:List Int} {Z:Int} (e:oO b l=Z) (A:Option Addr) (n c:Nat) (F:HL) (hbb:b.size <= 1000000) (hb:n <= 1000000) (hl:RowL lS 5 F A n l):Sp Tryz.prog 18 #[.string b,.slice A n c] [] F (λ u H'=>u=.int .u64 Z /\ H'=[]):=e ▸ zn b l A n c F hbb hb hl
theorem RwsIn.up {F X:HL} {rs:List Rw} {xss:List (List Inp)} (h:RwsIn F rs xss):RwsIn (X++F) rs xss:=h.mono λ x hx=>List.mem_append_right _ hx
theorem AZ (S3:Setup) (bp ev gb0 rp n rc cc:Nat) (rA cA:Option Addr) (rl:List Rw) (cl:List Ck) (xss:List (List Inp)) (W:Nat -> List Int) (F:HL) (hrp:(rp,.lit (Setup.l S3++[vP bp 0,vI (ev:Int),vP gb0 0,.slice rA n rc,.slice cA cl.length cc]) 86 (0,0)) ∈ F) (hr:RowL mJ 54 F rA n rl) (hw:RwsIn F rl xss) (hc:RowL r6 88 F cA cl.length cl) (hck:∀ k,k < cl.length -> ∃ q,cl.getD k r6.dflt=⟨some ⟨q,0,none⟩,(W (k * ev)).length,(W (k * ev)).length,fN (W (k * ev))⟩ /\ (q,.rows 1 (W (k * ev)).length (aK (W (k * ev))) 3 (0,0)) ∈ F) (hcl:cl.length <= 1000) (hev:ev < 128) (hn:n < 128) (hlen:∀ i,i < n -> (xss.getD i []).length <= 1000):Sp Tryz.prog 19 #[vP rp 0] (ap [] []) F (λ u H'=>∃ x:Option Addr × Nat × HL,H'=ap [] [x.2.2] /\ (u=.slice x.1 (j9 ev n xss (bq W ev cl.length)).length x.2.1 /\ SlIs lS 5 (j9 ev n xss (bq W ev cl.length)) x.1 x.2.1 x.2.2)):=G4 S3 bp ev gb0 rp n rc cc rA cA rl cl xss W F hrp hr hw hc hck hcl hev hn hlen
theorem Ba {ev n:Nat} {xss:List (List Inp)} {roots:List Int} (hn:xss.length <= 1000) (hr:roots.length <= 1000) (hx:∀ i,i < xss.length -> (xss.getD i []).length <= 10):(j9 ev n xss roots).length <= 100000:=by
 have h0:=xo (ev:=ev) (n:=xss.length) (xss:=xss) (roots:=roots) rfl rfl
 have h2:(j9 ev n xss roots).length=(j9 ev xss.length xss roots).length:=by simp [j9]
 rw [h2,<- h0,ru (Nat.le_refl _)]
 have h1:∀ m,m <= xss.length -> (fl ev xss.length xss m).length <= 2+10 * m:=λ m=>by
  induction m with
  | zero=>intro _;simp [fl]
  | succ m ih =>
   intro hm
   rw [lI (by omega),List.length_append,iM]
   have:=ih (by omega)
   have:=hx m (by omega)
   omega
 have:=h1 xss.length (Nat.le_refl _)
 omega
theorem C3 (S3:Setup) (bp ev gb0 rp n rc cc:Nat) (rA cA:Option Addr) (rl:List Rw) (cl:List Ck) (xss:List (List Inp)) (W:Nat -> List Int) (F:HL) (hrp:(rp,.lit (Setup.l S3++[vP bp 0,vI (ev:Int),vP gb0 0,.slice rA n rc,.slice cA cl.length cc]) 86 (0,0)) ∈ F) (hr:RowL mJ 54 F rA n rl) (hw:RwsIn F rl xss) (hc:RowL r6 88 F cA cl.length cl) (hck:∀ k,k < cl.length -> ∃ q,cl.getD k r6.dflt=⟨some ⟨q,0,none⟩,(W (k * ev)).length,(W (k * ev)).length,fN (W (k * ev))⟩ /\ (q,.rows 1 (W (k * ev)).length (aK (W (k * ev))) 3 (0,0)) ∈ F) (hcl:cl.length <= 1000) (hev:ev < 128) (hn:n < 128) (hlen:∀ i,i < n -> (xss.getD i []).length <= 1000) (BH:Int) (hel_:(j9 ev n xss (bq W ev cl.length)).length <= 1000000) (hBH:∀ F',(∀ x ∈ F,x ∈ F') -> Sp Tryz.prog 17 #[vP bp 0] [] F' (λ u H'=>u=.int .u64 BH /\ H'=[])):Sp Tryz.prog 15 #[vP rp 0] [] F (λ u H'=>u=.int .u64 (ky ⟨#[114,101,112,108,97,121]⟩ [IntKind.i64.wrap BH,(ev:Int),IntKind.i64.wrap (oO ⟨#[114,101,112,108,97,121]⟩ (j9 ev n xss (bq W ev cl.length)))]) /\ H'=[]):=by
 obtain ⟨Z,hZ⟩:∃ Z,oO ⟨#[114,101,112,108,97,121]⟩ (j9 ev n xss (bq W ev cl.length))=Z:=⟨_,rfl⟩
 rw [hZ]
 refine Sp.run Tryz.func15 rfl (mc hrp mn) (A:=[]) (Ts:=[]) rfl λ w0=>?_
 refine ae 6 [] λ _=>RN.draw [] []<|ag [] [0,6,10,1,7,2,8,3,9] [.ro 0,.ro 0]<|ar [] 4 (λ X_=>(hBH _ (λ x hx=>pX hx)))<|ag [] [5] []<|RD.one 11 (RDO.ct [] (Hp:=[]) (Tp:=[]) [] [] (AZ S3 bp ev gb0 rp n rc cc rA cA rl cl xss W _ (aw hrp) hr.up hw.up hc.up (λ k hk=>(hck k hk).imp λ q h_=>⟨h_.1,aw h_.2⟩) hcl hev hn hlen) ?_)
 rintro _ ⟨A1,c2,T3⟩ ⟨rfl,hs4⟩
 dsimp only at hs4
 refine ar [] 12 (λ X_=>(xw hZ A1 _ c2 _ (by decide) hel_ (hs4.rowN (aR 0) rfl)))<|ag [] [13] []<|RD.one 14 (RDO.ev [] [] λ n5=>?_)
 refine RD.dn 0 (.rows 1 3 (aK [IntKind.i64.wrap BH,(ev:Int),IntKind.i64.wrap Z]) 3 (0,0))<|ar [] 15 (λ X_=>(kL (⟨#[114,101,112,108,97,121]⟩) ([IntKind.i64.wrap BH,(ev:Int),IntKind.i64.wrap Z]) (n5+0) 3 _ (by decide) (Nat.le_of_ble_eq_true rfl) (Nat.le_of_ble_eq_true rfl) (im 0)))<|ag [] [16] []<|RD.fin<|ae 1 [] λ _=>?_
 exact RN.ret [] [] [] ⟨rfl,rfl⟩
def G5 (BH:Int) (ev n:Nat) (xss:List (List Inp)) (W:Nat -> List Int):Int:=ky ⟨#[114,101,112,108,97,121]⟩ [IntKind.i64.wrap BH,(ev:Int),IntKind.i64.wrap (oO ⟨#[114,101,112,108,97,121]⟩ (j9 ev n xss (bq W ev (n / ev+1))))]
section
variable {rs_:List Bx} {ds_:List Dr} {bp ev rp n:Nat} {S S2:Setup} {W:Nat -> List Int} {xss:List (List Inp)} {G F:HL}
theorem NH (h:RecH rs_ ds_ bp ev rp S S2 W n xss G) (hF:∀ x ∈ G,x ∈ F) (hev:ev < 128) (hn:n < 128) (hlen:∀ i,i < n -> (xss.getD i []).length <= 10):Sp Tryz.prog 19 #[vP rp 0] (ap [] []) F (λ u H'=>∃ x:Option Addr × Nat × HL,H'=ap [] [x.2.2] /\ (u=.slice x.1 (j9 ev n xss (bq W ev (n / ev+1))).length x.2.1 /\ SlIs lS 5 (j9 ev n xss (bq W ev (n / ev+1))) x.1 x.2.1 x.2.2)):=by
 cases h with
 | mk h3 hs hg hcs hb hr hrl hrr hc hcl hck =>
  have hd:n / ev <= n:=Nat.div_le_self _ _
  have h5:=hr.toRowL (F:=F) λ x hx=>hF x (by simp [ap,hx])
  rw [hrl] at h5
  have key:=AZ _ bp ev _ rp n _ _ _ _ _ _ xss W F (hF _ (List.mem_append_left _ (List.mem_singleton.2 rfl))) h5 (hrr F λ x hx=>hF x (by simp [ap,hx])) (hc.toRowL λ x hx=>hF x (by simp [ap,hx])) (hck F λ x hx=>hF x (by simp [ap,hx])) (by omega) hev hn (λ i hi=>by have:=hlen i hi;omega)
  rw [hcl] at key
  exact key
theorem LI (h:RecH rs_ ds_ bp ev rp S S2 W n xss G) (hF:∀ x ∈ G,x ∈ F) (hev:ev < 128) (hn:n < 128) (hlen:∀ i,i < n -> (xss.getD i []).length <= 10) (BH:Int) (hBH:∀ F',(∀ x ∈ F,x ∈ F') -> Sp Tryz.prog 17 #[vP bp 0] [] F' (λ u H'=>u=.int .u64 BH /\ H'=[])):Sp Tryz.prog 15 #[vP rp 0] [] F (λ u H'=>u=.int .u64 (G5 BH ev n xss W) /\ H'=[]):=by
 cases h with
 | mk h3 hs hg hcs hb hr hrl hrr hc hcl hck =>
  have hd:n / ev <= n:=Nat.div_le_self _ _
  have h5:=hr.toRowL (F:=F) λ x hx=>hF x (by simp [ap,hx])
  rw [hrl] at h5
  have hw:=hrr F λ x hx=>hF x (by simp [ap,hx])
  have hx:=hw.len
  have key:=C3 _ bp ev _ rp n _ _ _ _ _ _ xss W F (hF _ (List.mem_append_left _ (List.mem_singleton.2 rfl))) h5 hw (hc.toRowL λ x hx=>hF x (by simp [ap,hx])) (hck F λ x hx=>hF x (by simp [ap,hx])) (by omega) hev hn (λ i hi=>by have:=hlen i hi;omega) BH (by rw [hcl];exact Nat.le_trans (Ba (by omega) (by rw [dP];omega) (λ i hi=>hlen i (by omega))) (by decide)) hBH
  rw [hcl] at key
  exact key
end
end Go.Proofs.YtgdcbiiopbpgaaaGreatDoor
