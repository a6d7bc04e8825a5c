import Derived.Test.YtgibcbhfmomfbaaGreatDoorP43
set_option maxHeartbeats 4000000
set_option maxRecDepth 100000
set_option linter.unusedSimpArgs false
set_option linter.unusedVariables false
namespace Go.Proofs.YtgibcbhfmomfbaaGreatDoor
open Go.RowKit
theorem play_run (rs_ : List Bx) (ds_ : List Dr) (S : Setup) (bp gb n cap j k : Nat) (A : Option Addr) (rs : List Rw) (xss : List (List Inp)) (M : MemS) (TB G0 F : HL) (hG : GameH rs_ ds_ bp gb S M (k + 20000 * n) G0) (hj : j < 5) (hB : Book1 j bp TB) (hTB : ∀ x ∈ TB,x ∈ F) (hE : EffIn F) (hr : RowL rwE 44 F A n rs) (hw : RwsIn F rs xss) (hxl : ∀ k,k < n -> (xss.getD k []).length <= 1000000) (hn : n <= 50) (hP : ∀ i,i < n -> TkOk S j (xss.getD i []) (plM (rG S j xss) M i)) : Sp Tryz.prog 21 #[vP gb 0,.slice A n cap] (ap [] [G0]) F (λ u H' => ∃ x : (Option Addr × Nat) × HL × HL,H' = ap [] [x.2.1,x.2.2] /\ (GameH rs_ ds_ bp gb S (plM (rG S j xss) M n) k x.2.1 /\ SlIs effE 99 (plE (rG S j xss) M n) x.1.1 x.1.2 x.2.2 /\ u = .tuple #[.slice x.1.1 (plE (rG S j xss) M n).length x.1.2,.bool true])):=by
 refine Sp.run Tryz.func21 rfl mn (A:=[]) (Ts:=[G0]) rfl λ w0 => ?_
 refine RN.go 18 [] λ _ => RN.nt <| RN.loop (σ:=Nat × Option Addr × Nat × HL × HL) (λ ⟨i_,A_,c_,G_,E_⟩ => ⟨[(0,vP gb 0),(1,.slice A n cap),(6,.slice A_ ((plE (rG S j xss) M i_).length) c_),(7,vI (i_ : Int))],[],[G_,E_],i_ <= n /\ GameH rs_ ds_ bp gb S (plM (rG S j xss) M i_) (k + 20000 * (n - i_)) G_ /\ SlIs effE 99 (plE (rG S j xss) M i_) A_ c_ E_,n - i_⟩) (0,none,0,G0,[]) [] [1,0] (⟨Nat.zero_le _,hG,SlIs.nil _ _⟩) ?_
 rintro ⟨i_,A_,c_,G_,E_⟩ ⟨hi_,hG_,hs_⟩ mt2
 refine RN.go 9 [] λ _ => RN.em ((i_ : Int) < (n : Int)) 14 (λ h3 => ?_) λ h3 => ?_
 ·refine RN.go 10 [] λ _ => ?_
  have hG2_:=hG_.weak (k':=k + 20000 * (n - (i_ + 1)) + 20000) (by omega)
  obtain ⟨qx4,ox4,Nx4,fx4,fzx4,hAx4,hqx4,hox4,hgx4⟩:=hr.at (k:=i_) (by omega)
  refine RN.sv 19 (congrArg (λ v_ => (.slice v_ n cap : Value)) hAx4) <| RN.ro (λ _ => (mc hqx4 mn)) <| RN.goP 2 [.ix i_,.rorow 0 (ox4 + i_) 0] [(ox4 * 1 + i_ * 1) = (ox4 + i_) * 1 + 0 /\ (ox4 + i_) < Nx4,(i_ : Int) = ((i_ : Nat) : Int) /\ i_ < n] λ _ => RN.sv 22 (congrArg (λ v_ => (.slice v_.A v_.n v_.c : Value)) hgx4) ?_
  obtain ⟨bw5,ow5,Nw5,fw5,cw5,ew5,hIw5,hiw5,hxw5,hcw5⟩:=hw.get (k:=i_) (by rw [hr.len]; omega)
  refine RN.sv 22 (congrArg (λ v_ : Rw => Value.slice v_.A v_.n v_.c) ew5) <| RN.ct [] [0] (tick_tk (c:=cw5) (k:=(k + 20000 * (n - (i_ + 1)))) hG2_ hj hB (λ x hx => ro_ap (hTB x hx)) (ro_ap hE) (ro_ap hIw5) hiw5 (by have:=hxl i_ (by omega); omega) hxw5 (hP i_ (by omega))) ?_
  rintro _ ⟨⟨A6,c7,n8⟩,T9,E10⟩ ⟨hG11,hs12,rfl⟩
  dsimp only at hG11 hs12
  refine RN.go 20 [] λ _ => RN.em (((n8 + 1 : Nat) : Int) < 1) 32 (λ h13 => ?_) λ h13 => ?_
  ·(exfalso; omega)
  ·refine RN.go 6 [] λ _ => RN.appU (c':=c7) (tx:=49) effEOk (plE (rG S j xss) M i_) (tkE (gmX S j (xss.getD i_ [])) (plM (rG S j xss) M i_)) 2 rfl hs_ (by have h1_:=plE_len (rG S j xss) M i_; have h2_:=tkE_len (gmX S j (xss.getD i_ [])) (plM (rG S j xss) M i_); omega) (hs12.src effEOk (by decide) (sub_ap 1)) ?_
   rintro A14 c15 T16 ⟨hs17,hz18⟩
   refine RN.goP 9 [.nw] [I64 ((i_ : Int) + 1)] λ _ => RN.sv 6 (congrArg (λ v_ => (.slice A14 v_ c15 : Value)) (show (plE (rG S j xss) M i_).length + (tkE (gmX S j (xss.getD i_ [])) (plM (rG S j xss) M i_)).length = (plE (rG S j xss) M (i_ + 1)).length by rw [plE,List.length_append])) ?_
   refine mt2 (i_ + 1,A14,c15,T9,T16) [] [1,0] ?_
   try dsimp only
   exact ⟨⟨by omega,hG11.weak (by omega),hs17⟩,by omega⟩
 ·refine RN.go 13 [] λ _ => RN.ret [] [] [0,1] (v:=.tuple #[.slice A_ ((plE (rG S j xss) M i_).length) c_,.bool true]) (H':=(ap [] [G_,E_])) ?_
  obtain rfl : i_ = n:=by omega
  exact ⟨((A_,c_),G_,E_),rfl,hG_.weak (by omega),hs_,rfl⟩
theorem get_cs {M N : MemS} (h : M.cs = N.cs) (i : Int) : M.get i = N.get i:=by unfold MemS.get; rw [h]
theorem goodRun_sh (g : Gm) (l : List (Int × Int)) (b : Int) : ∀ (n : Nat) (M : MemS),goodRun g n (M.sh l b) ↔ goodRun g n M
 | 0,_ => Iff.rfl
 | n + 1,M => by rw [goodRun,goodRun,trE_sh,trM,trM,trV_sh,vsh_M,goodRun_sh g l b n]; exact Iff.rfl
theorem goodRun_cs {g : Gm} {M N : MemS} (h : M.cs = N.cs) (n : Nat) (hg : goodRun g n M) : goodRun g n N:=by
 rw [<- sh_eta M,goodRun_sh] at hg
 rw [<- sh_eta N,goodRun_sh,<- h]
 exact hg
theorem TkOk.cs {S : Setup} {j : Nat} {xs : List Inp} {M N : MemS} (e : M.cs = N.cs) (h : TkOk S j xs M) : TkOk S j xs N:=by
 obtain ⟨m,h1,h2⟩:=h.ex
 exact ⟨⟨m,h1,goodRun_cs e _ h2⟩,by rw [<- get_cs e]; exact h.now,by rw [<- get_cs e]; exact h.ok⟩
theorem tkM_base (g : Gm) (M : MemS) : (tkM g M).base = M.base:=by
 have h:=congrArg MemS.base (congrArg (tkM g) (sh_eta M))
 rw [tkM_sh] at h
 exact h.symm
theorem mark_memb (mb cb n : Nat) (A : Option Addr) (m cap : Nat) (base : Int) (F : HL) (hm : (mb,.lit [vS cb 0 n n,.slice A m cap,vI base] 128 (0,0)) ∈ F) (hb : 0 <= base /\ base <= 1000000000) (hl : m <= 100000000) : Sp Tryz.prog 40 #[vP mb 0] [] F (λ u H' => u = vI (base + (m : Int)) /\ H' = []):=by
 have h:=mark_mem mb cb n A m cap base F hm
 rwa [w64_id (by omega)] at h
theorem mark_b {mb : Nat} {M : MemS} {k : Nat} {T F : HL} (h : MemH mb M k T) (hs : ∀ x ∈ T,x ∈ F) (hb : 0 <= M.base /\ M.base <= 1000000000) : Sp Tryz.prog 40 #[vP mb 0] [] F (λ u H' => u = vI (M.base + (M.lg.length : Int)) /\ H' = []):=by
 have h1:=h.len2
 have h2:=mark_any h hs
 rwa [w64_id (by omega)] at h2
theorem NewS.sl0 {A' : Option Addr} {cap' : Nat} {Hl' : HL} (h : NewS entE 137 ([] : List (Int × Int)) none A' cap' Hl') : SlIs entE 137 [] A' cap' Hl':=by
 rcases h with ⟨_,rfl,rfl,rfl⟩ | ⟨b,rfl,rfl,_⟩
 ·exact SlIs.nil _ _
 ·refine .inr ⟨b,0,List.replicate cap' entE.dflt,by simp,?_,by simp,Nat.zero_le _,rfl⟩
  have:=rowE_pad (e:=entE) [] cap'
  rw [List.nil_append] at this
  rw [this,Nat.zero_add]
theorem Sp.tl {P : Program} {f : FuncId} {args : Array Value} {H F : HL} {R : Value -> HL -> Prop} (h : Sp P f args H F R) : Sp P f args H F (λ u H' => ∃ x,H' = ap [] [x] /\ R u x):=h.mono λ u H' h => ⟨H',(ap_one H').symm,h⟩
theorem srcZ {P : Program} {sz : Nat} {tx e' : TypeId} {a : Addr} {m c' : Nat} {w : World} (hm : m = 0) (hk : P.underlying tx = some (.slice e')) : Src P sz tx (.slice (some a) m c') 0 [] w:=by
 subst hm
 exact Src.ofSlice w hk a 0 c' [] (by simp) (λ j u h => by simp at h) (λ u h => by simp at h)
theorem mcheck_any (mb cb n : Nat) (A : Option Addr) (m cap : Nat) (base : Int) (F : HL) (hm : (mb,.lit [vS cb 0 n n,.slice A m cap,vI base] 128 (0,0)) ∈ F) (hb : 0 <= base /\ base <= 1000000000) (hl : m <= 100000000) : Sp Tryz.prog 64 #[vP mb 0,vI (base + (m : Int))] [] F (λ u H' => u = vI 0 /\ H' = []):=by
 refine Sp.run Tryz.func64 rfl (mc hm mn) (A:=[]) (Ts:=[]) rfl λ w0 => ?_
 refine RN.go 18 [.ro 0] λ _ => RN.em (base + (m : Int) < base) 5 (λ h1 => ?_) λ h1 => ?_
 ·(exfalso; omega)
 ·refine RN.go 5 [] λ _ => RN.cp (mark_memb mb cb n A m cap base _ (ro_ap hm) hb hl) <| RN.go 4 [] λ _ => RN.em (base + (m : Int) > base + (m : Int)) 12 (λ h2 => ?_) λ h2 => ?_
  ·(exfalso; omega)
  ·refine RN.go 9 [] λ _ => ?_
   exact RN.ret [] [] [] ⟨rfl,rfl⟩
theorem disc_nil (mb cb k : Nat) (M : MemS) (F : HL) (hb : 0 <= M.base /\ M.base <= 1000000000) (hc : M.cs.length <= 1000000) (hk : k <= 100000000) : Sp Tryz.prog 45 #[vP mb 0,vI (M.base + ((0 : Nat) : Int))] [(mb,.lit [vS cb 0 M.cs.length M.cs.length,.slice none 0 0,vI M.base] 128 (0,0)),(cb,.rows 1 M.cs.length (irow M.cs) 3 (0,0))] F (λ u H' => u = vI 0 /\ MemH mb ⟨M.cs,[],M.base + ((0 : Nat) : Int)⟩ k H'):=by
 refine Sp.run Tryz.func45 rfl mn (A:=[(mb,.lit [vS cb 0 M.cs.length M.cs.length,.slice none 0 0,vI M.base] 128 (0,0)),(cb,.rows 1 M.cs.length (irow M.cs) 3 (0,0))]) (Ts:=[]) rfl λ w0 => ?_
 refine RN.go 10 [] λ _ => RN.cp (mcheck_any mb cb M.cs.length none 0 0 M.base _ (in_ap 0) hb (by omega)) <| RN.goP 40 [.own 0,.nw,.own 0,.own 0] [I64 ((M.base + ((0 : Nat) : Int)) - M.base)] λ _ => RN.sv 28 (congrArg (λ v_ => (vI v_ : Value)) (show (M.base + ((0 : Nat) : Int)) - M.base = 0 by omega)) <| RN.go 18 [.own 0,.own 0] λ _ => RN.em (0 < (M.base + ((0 : Nat) : Int)) - M.base) 38 (λ h1 => ?_) λ h1 => ?_
 ·(exfalso; omega)
 ·refine RN.go 8 [] λ _ => RN.ret [] [0,1] [] (v:=vI 0) (H':=(ap [(mb,.lit [vS cb 0 M.cs.length M.cs.length,.slice none 0 0,vI (M.base + ((0 : Nat) : Int))] 128 (0,0)),(cb,.rows 1 M.cs.length (irow M.cs) 3 (0,0))] [])) ?_
  refine ⟨rfl,?_⟩
  have h_:=MemH.mk (mb:=mb) (M:=⟨M.cs,[],M.base + ((0 : Nat) : Int)⟩) (k:=k) cb none 0 ([]) (SlIs.nil _ _) hc (by simp; omega)
  simpa [ap] using h_
theorem disc_end (mb cb k b o cap : Nat) (M : MemS) (full : List (Int × Int)) (F : HL) (hb : 0 <= M.base /\ M.base <= 1000000000) (hc : M.cs.length <= 1000000) (hk : k <= 100000000) (hf : full.length = o + cap) (hn : M.lg.length = cap) (hl : M.lg.length <= 100000000) : Sp Tryz.prog 45 #[vP mb 0,vI (M.base + (M.lg.length : Int))] [(mb,.lit [vS cb 0 M.cs.length M.cs.length,vS b (o * 2) M.lg.length cap,vI M.base] 128 (0,0)),(cb,.rows 1 M.cs.length (irow M.cs) 3 (0,0)),(b,.rows 2 (o + cap) (rowE entE full) 137 (0,0))] F (λ u H' => u = vI 0 /\ MemH mb ⟨M.cs,[],M.base + (M.lg.length : Int)⟩ k H'):=by
 refine Sp.run Tryz.func45 rfl mn (A:=[(mb,.lit [vS cb 0 M.cs.length M.cs.length,vS b (o * 2) M.lg.length cap,vI M.base] 128 (0,0)),(cb,.rows 1 M.cs.length (irow M.cs) 3 (0,0)),(b,.rows 2 (o + cap) (rowE entE full) 137 (0,0))]) (Ts:=[]) rfl λ w0 => ?_
 refine RN.go 10 [] λ _ => RN.cp (mcheck_any mb cb M.cs.length (some ⟨b,o * 2,none⟩) M.lg.length cap M.base _ (in_ap 0) hb (by omega)) <| RN.goP 40 [.own 0,.nw,.own 0,.own 0] [I64 ((M.base + (M.lg.length : Int)) - M.base)] λ _ => RN.sv 28 (congrArg (λ v_ => (vI v_ : Value)) (show (M.base + (M.lg.length : Int)) - M.base = (M.lg.length : Int) by omega)) <| RN.goP 18 [.sl M.lg.length M.lg.length true,.own 0,.own 0] [(M.lg.length : Int) = ((M.lg.length : Nat) : Int) /\ M.lg.length = M.lg.length /\ M.lg.length <= M.lg.length /\ M.lg.length <= cap /\ cap = M.lg.length] λ _ => RN.em ((((M.lg.length - M.lg.length) : Nat) : Int) < (M.base + (M.lg.length : Int)) - M.base) 38 (λ h1 => ?_) λ h1 => ?_
 ·refine RN.go 7 [.own 0] λ _ => RN.nt <| RN.appN (A:=none) (B:=(some ⟨b,o * 2,none⟩)) (c':=(cap - M.lg.length)) entEOk ([] : List (Int × Int)) 0 (λ a_ e_ => by cases e_) (m:=(M.lg.length - M.lg.length)) (tx:=126) (by simp) (by simp) (λ e_ he X w hR => srcZ (by simp) he) ?_
  rintro A2 c3 T4 hs5
  refine RN.go 10 [.own 0] λ _ => RN.ret [] [0,1] [0] (v:=vI 0) (H':=(ap [(mb,.lit [vS cb 0 M.cs.length M.cs.length,.slice A2 0 c3,vI (M.base + (M.lg.length : Int))] 128 (0,0)),(cb,.rows 1 M.cs.length (irow M.cs) 3 (0,0))] [T4])) ?_
  refine ⟨rfl,?_⟩
  have h_:=MemH.mk (mb:=mb) (M:=⟨M.cs,[],M.base + (M.lg.length : Int)⟩) (k:=k) cb A2 c3 T4 hs5.sl0 hc (by simp; omega)
  exact h_
 ·refine RN.go 8 [] λ _ => RN.ret [] [0,1,2] [] (v:=vI 0) (H':=(ap [(mb,.lit [vS cb 0 M.cs.length M.cs.length,vS b (o * 2) (M.lg.length - M.lg.length) (cap - M.lg.length),vI (M.base + (M.lg.length : Int))] 128 (0,0)),(cb,.rows 1 M.cs.length (irow M.cs) 3 (0,0)),(b,.rows 2 (o + cap) (rowE entE full) 137 (0,0))] [])) ?_
  refine ⟨rfl,?_⟩
  rw [Nat.sub_self]
  have h_:=MemH.mk (mb:=mb) (M:=⟨M.cs,[],M.base + (M.lg.length : Int)⟩) (k:=k) cb (some ⟨b,o * 2,none⟩) (cap - M.lg.length) ([(b,.rows 2 (o + cap) (rowE entE full) 137 (0,0))]) (.inr ⟨b,o,full,rfl,by rw [show o + (cap - M.lg.length) = o + cap by omega]; rfl,by omega,Nat.zero_le _,rfl⟩) hc (by simp; omega)
  simpa [ap] using h_
theorem disc_mid (mb cb k b o cap : Nat) (M : MemS) (full : List (Int × Int)) (F : HL) (hb : 0 <= M.base /\ M.base <= 1000000000) (hc : M.cs.length <= 1000000) (hk : k <= 100000000) (hf : full.length = o + cap) (hn : M.lg.length < cap) (hl : M.lg.length <= 100000000) : Sp Tryz.prog 45 #[vP mb 0,vI (M.base + (M.lg.length : Int))] [(mb,.lit [vS cb 0 M.cs.length M.cs.length,vS b (o * 2) M.lg.length cap,vI M.base] 128 (0,0)),(cb,.rows 1 M.cs.length (irow M.cs) 3 (0,0)),(b,.rows 2 (o + cap) (rowE entE full) 137 (0,0))] F (λ u H' => u = vI 0 /\ MemH mb ⟨M.cs,[],M.base + (M.lg.length : Int)⟩ k H'):=by
 refine Sp.run Tryz.func45 rfl mn (A:=[(mb,.lit [vS cb 0 M.cs.length M.cs.length,vS b (o * 2) M.lg.length cap,vI M.base] 128 (0,0)),(cb,.rows 1 M.cs.length (irow M.cs) 3 (0,0)),(b,.rows 2 (o + cap) (rowE entE full) 137 (0,0))]) (Ts:=[]) rfl λ w0 => ?_
 refine RN.go 10 [] λ _ => RN.cp (mcheck_any mb cb M.cs.length (some ⟨b,o * 2,none⟩) M.lg.length cap M.base _ (in_ap 0) hb (by omega)) <| RN.goP 40 [.own 0,.nw,.own 0,.own 0] [I64 ((M.base + (M.lg.length : Int)) - M.base)] λ _ => RN.sv 28 (congrArg (λ v_ => (vI v_ : Value)) (show (M.base + (M.lg.length : Int)) - M.base = (M.lg.length : Int) by omega)) <| RN.goP 18 [.sl M.lg.length M.lg.length false,.own 0,.own 0] [(M.lg.length : Int) = ((M.lg.length : Nat) : Int) /\ M.lg.length = M.lg.length /\ M.lg.length <= M.lg.length /\ M.lg.length <= cap /\ cap ≠ M.lg.length] λ _ => RN.em ((((M.lg.length - M.lg.length) : Nat) : Int) < (M.base + (M.lg.length : Int)) - M.base) 38 (λ h1 => ?_) λ h1 => ?_
 ·refine RN.go 7 [.own 0] λ _ => RN.nt <| RN.appN (A:=none) (B:=(some ⟨b,(o * 2 + M.lg.length * 2),none⟩)) (c':=(cap - M.lg.length)) entEOk ([] : List (Int × Int)) 0 (λ a_ e_ => by cases e_) (m:=(M.lg.length - M.lg.length)) (tx:=126) (by simp) (by simp) (λ e_ he X w hR => srcZ (by simp) he) ?_
  rintro A2 c3 T4 hs5
  refine RN.go 10 [.own 0] λ _ => RN.ret [] [0,1] [0] (v:=vI 0) (H':=(ap [(mb,.lit [vS cb 0 M.cs.length M.cs.length,.slice A2 0 c3,vI (M.base + (M.lg.length : Int))] 128 (0,0)),(cb,.rows 1 M.cs.length (irow M.cs) 3 (0,0))] [T4])) ?_
  refine ⟨rfl,?_⟩
  have h_:=MemH.mk (mb:=mb) (M:=⟨M.cs,[],M.base + (M.lg.length : Int)⟩) (k:=k) cb A2 c3 T4 hs5.sl0 hc (by simp; omega)
  exact h_
 ·refine RN.go 8 [] λ _ => RN.ret [] [0,1,2] [] (v:=vI 0) (H':=(ap [(mb,.lit [vS cb 0 M.cs.length M.cs.length,vS b (o * 2 + M.lg.length * 2) (M.lg.length - M.lg.length) (cap - M.lg.length),vI (M.base + (M.lg.length : Int))] 128 (0,0)),(cb,.rows 1 M.cs.length (irow M.cs) 3 (0,0)),(b,.rows 2 (o + cap) (rowE entE full) 137 (0,0))] [])) ?_
  refine ⟨rfl,?_⟩
  rw [Nat.sub_self]
  have h_:=MemH.mk (mb:=mb) (M:=⟨M.cs,[],M.base + (M.lg.length : Int)⟩) (k:=k) cb (some ⟨b,o * 2 + M.lg.length * 2,none⟩) (cap - M.lg.length) ([(b,.rows 2 (o + cap) (rowE entE full) 137 (0,0))]) (.inr ⟨b,o + M.lg.length,full,by rw [Nat.add_mul]; rfl,by rw [show o + M.lg.length + (cap - M.lg.length) = o + cap by omega]; rfl,by omega,Nat.zero_le _,rfl⟩) hc (by simp; omega)
  simpa [ap] using h_
theorem disc_any {mb : Nat} {M : MemS} {k k2 : Nat} {T : HL} (F : HL) (h : MemH mb M k T) (hb : 0 <= M.base /\ M.base <= 1000000000) (hk : k2 <= 100000000) : Sp Tryz.prog 45 #[vP mb 0,vI (M.base + (M.lg.length : Int))] (ap [] [T]) F (λ u H' => ∃ x,H' = ap [] [x] /\ (u = vI 0 /\ MemH mb ⟨M.cs,[],M.base + (M.lg.length : Int)⟩ k2 x)):=by
 rw [ap_one]
 cases h with
 | mk cb A cap Hl hs hc hl =>
  rcases hs with ⟨rfl,rfl,h1,rfl⟩ | ⟨b,o,full,rfl,rfl,h1,h2,h3⟩
  ·have e : M.lg.length = 0:=by rw [h1]; rfl
   rw [e]
   have key:=disc_nil mb cb k2 M F hb hc hk
   exact key.tl
  ·rcases Nat.lt_or_ge M.lg.length cap with h4 | h4
   ·have key:=disc_mid mb cb k2 b o cap M full F hb hc hk h1 h4 (by omega)
    exact key.tl
   ·have key:=disc_end mb cb k2 b o cap M full F hb hc hk h1 (by omega) (by omega)
    exact key.tl
theorem GameH.op {rs : List Bx} {ds : List Dr} {bp gb : Nat} {S : Setup} {M : MemS} {k : Nat} {G : HL} (h : GameH rs ds bp gb S M k G) : ∃ mb T U,MemH mb M k T /\ SetTl S rs ds U /\ G = ap [(gb,.lit (gameL S bp mb) 88 (0,0))] [T,U]:=by
 cases h with
 | mk mb T U hM hU => exact ⟨mb,T,U,hM,hU,rfl⟩
theorem tick_both {rs : List Bx} {ds : List Dr} {S : Setup} {bp gb mb b o N c j k : Nat} {full xs : List Inp} {M : MemS} {TB T U F : HL} (now : Int) (hM : MemH mb M (k + 20000) T) (hU : SetTl S rs ds U) (hnow : M.get 0 = now) (hj : j < 5) (hB : Book1 j bp TB) (hTB : ∀ x ∈ TB,x ∈ F) (hE : EffIn F) (hI : (b,.rows 3 N (inrow full) 24 (0,0)) ∈ F) (hir : o + xs.length <= N) (hni : xs.length <= 1000000) (hx : ∀ k,k < xs.length -> full.getD (o + k) dI = xs.getD k dI) (hk : TkOk S j xs M \/ ¬ wrongE S.players xs.length xs now = 0) :
  Sp Tryz.prog 15 #[vP gb 0,vS b (o * 3) xs.length c] (ap [(gb,.lit (gameL S bp mb) 88 (0,0))] [T,U]) F (λ u H' => ∃ x : (Option Addr × Nat × Nat) × HL × HL,H' = ap [(gb,.lit (gameL S bp mb) 88 (0,0))] [x.2.1,U,x.2.2] /\
   ((TkOk S j xs M /\ MemH mb (tkM (gmX S j xs) M) k x.2.1 /\ SlIs effE 99 (tkE (gmX S j xs) M) x.1.1 x.1.2.1 x.2.2 /\ u = .tuple #[.slice x.1.1 (tkE (gmX S j xs) M).length x.1.2.1,vI ((x.1.2.2 + 1 : Nat) : Int),vI 0]) \/
    (¬ wrongE S.players xs.length xs now = 0 /\ MemH mb M k x.2.1 /\ u = .tuple #[.slice none 0 0,vI 0,vI (wrongE S.players xs.length xs now)]))):=by
 subst hnow
 have hl : RowL inpE 24 F (some ⟨b,o * 3,none⟩) xs.length xs:=.rows b o N full (0,0) _ xs hI hir rfl hx
 rcases hk with hk | hk
 ·obtain ⟨m,hm,hg⟩:=hk.ex
  obtain ⟨e1,e2⟩:=tk_of hm hg
  refine (tick_run S rs ds bp gb mb b o N xs.length c j m k full xs M TB T U F hj hB hTB hU hE hI hir hni (by omega) rfl hx (hM.weak (by omega)) hk.now hg hk.ok).mono λ u H' h => ?_
  obtain ⟨⟨T1,A,cc,E⟩,rfl,h1,h2,h3⟩:=h
  dsimp only at h1 h2 h3
  rw [e1] at h1
  rw [e2] at h2 h3
  exact ⟨((A,cc,m),T1,E),rfl,.inl ⟨hk,h1,h2,h3⟩⟩
 ·refine (tickx_run _ S bp gb mb xs.length c (k + 20000) (some ⟨b,o * 3,none⟩) xs M T U F hl hni hM rfl hk).mono λ u H' h => ?_
  obtain ⟨rfl,rfl⟩:=h
  exact ⟨((none,0,0),T,[]),by simp [ap],.inr ⟨hk,hM.weak (by omega),rfl⟩⟩
def RunR (S : Setup) (j n : Nat) (xss : List (List Inp)) (u : Value) (x : (Setup × Nat × Option Addr × Nat) × HL × HL) : Prop :=
 SetEq S x.1.1 /\ (((∀ i,i < n -> TkOk x.1.1 j (xss.getD i []) (plM (rG x.1.1 j xss) ⟨iniL S S.nb,[],0⟩ i)) /\ x.2.1 = [(x.1.2.1,.rows 1 (plM (rG x.1.1 j xss) ⟨iniL S S.nb,[],0⟩ n).cs.length (irow (plM (rG x.1.1 j xss) ⟨iniL S S.nb,[],0⟩ n).cs) 3 (0,0))] /\
   SlIs effE 99 (plE (rG x.1.1 j xss) ⟨iniL S S.nb,[],0⟩ n) x.1.2.2.1 x.1.2.2.2 x.2.2 /\ u = .tuple #[vS x.1.2.1 0 (plM (rG x.1.1 j xss) ⟨iniL S S.nb,[],0⟩ n).cs.length (plM (rG x.1.1 j xss) ⟨iniL S S.nb,[],0⟩ n).cs.length,.slice x.1.2.2.1 (plE (rG x.1.1 j xss) ⟨iniL S S.nb,[],0⟩ n).length x.1.2.2.2,vI 0]) \/
  (∃ i,i < n /\ (∀ k,k < i -> TkOk x.1.1 j (xss.getD k []) (plM (rG x.1.1 j xss) ⟨iniL S S.nb,[],0⟩ k)) /\ ¬ wrongE x.1.1.players (xss.getD i []).length (xss.getD i []) ((plM (rG x.1.1 j xss) ⟨iniL S S.nb,[],0⟩ i).get 0) = 0 /\
   u = .tuple #[.slice none 0 0,.slice none 0 0,vI (wrongE x.1.1.players (xss.getD i []).length (xss.getD i []) ((plM (rG x.1.1 j xss) ⟨iniL S S.nb,[],0⟩ i).get 0))]))
theorem run_run (S : Setup) (rs_ : List Bx) (ds_ : List Dr) (bp n cap j : Nat) (A : Option Addr) (rs : List Rw) (xss : List (List Inp)) (TB F : HL) (hS : SetIn F S) (hM : MapIn F S rs_ ds_) (h1 : 1 <= S.nb) (hrn : S.rn <= 1000000) (hdn : S.dn <= 1000000) (hsz : (sizeOf S).toNat <= 1000000) (hv : valE S rs_ ds_ = 0) (hj : j < 5) (hB : Book1 j bp TB) (hTB : ∀ x ∈ TB,x ∈ F) (hE : EffIn F) (hr : RowL rwE 44 F A n rs) (hw : RwsIn F rs xss) (hxl : ∀ k,k < n -> (xss.getD k []).length <= 1000000) (hn : n <= 50) (h9 : n <= 9) (hP : ∀ S2,SetEq S S2 -> ∀ i,i < n -> (∀ k,k < i -> TkOk S2 j (xss.getD k []) (plM (rG S2 j xss) ⟨iniL S S.nb,[],0⟩ k)) -> TkOk S2 j (xss.getD i []) (plM (rG S2 j xss) ⟨iniL S S.nb,[],0⟩ i) \/ ¬ wrongE S2.players (xss.getD i []).length (xss.getD i []) ((plM (rG S2 j xss) ⟨iniL S S.nb,[],0⟩ i).get 0) = 0) : Sp Tryz.prog 22 #[(Setup.v S),vP bp 0,.slice A n cap] [] F (λ u H' => ∃ x : (Setup × Nat × Option Addr × Nat) × HL × HL,H' = ap [] [x.2.1,x.2.2] /\ RunR S j n xss u x):=by
 refine Sp.run Tryz.func22 rfl mn (A:=[]) (Ts:=[]) rfl λ w0 => ?_
 refine RN.go 12 (ow 0 16) λ n1 => RN.ct (Hp:=[]) (Tp:=[]) [] [] (gnew_any S rs_ ds_ bp _ hS.up hM.up h1 hrn hdn hsz hv 1000000 (by decide)) ?_
 rintro _ ⟨g2,S3,T4⟩ ⟨rfl,he5,hG6⟩
 dsimp only at he5 hG6
 obtain ⟨mb,Tm,U,hMm,hU,eG⟩:=hG6.op
 refine RN.ots 0 [(g2,.lit (gameL S3 bp mb) 88 (0,0))] [Tm,U] eG <| RN.go 31 [] λ _ => RN.nt <| RN.loop (σ:=Nat × Option Addr × Nat × MemS × HL × HL) (λ ⟨i_,A_,c_,N_,T_,E_⟩ => ⟨[(9,vP g2 0),(11,.slice A_ ((plE (rG S3 j xss) ⟨iniL S S.nb,[],0⟩ i_).length) c_),(26,.slice A n cap),(27,vI (n : Int)),(28,vI (i_ : Int))],[(g2,.lit (gameL S3 bp mb) 88 (0,0)),((n1 + 0),.lit (Setup.l S) 33 (0,0))],[T_,E_,U],i_ <= n /\ N_.cs = (plM (rG S3 j xss) ⟨iniL S S.nb,[],0⟩ i_).cs /\ MemH mb N_ 1000000 T_ /\ (0 <= N_.base /\ N_.base <= 100000000 * (i_ : Int)) /\ SlIs effE 99 (plE (rG S3 j xss) ⟨iniL S S.nb,[],0⟩ i_) A_ c_ E_ /\ (∀ k,k < i_ -> TkOk S3 j (xss.getD k []) (plM (rG S3 j xss) ⟨iniL S S.nb,[],0⟩ k)),n - i_⟩) (0,none,0,⟨iniL S S.nb,[],0⟩,Tm,[]) [0,1] [1,0,2] (⟨Nat.zero_le _,rfl,hMm,⟨Int.le_refl 0,by show (0 : Int) <= _; omega⟩,SlIs.nil _ _,λ k hk => absurd hk (Nat.not_lt_zero _)⟩) ?_
 rintro ⟨i_,A_,c_,N_,T_,E_⟩ ⟨hi_,hcs_,hT_,hbs0_,hs_,hok_⟩ mt8
 refine RN.go 6 [] λ _ => RN.em ((i_ : Int) < (n : Int)) 29 (λ h9 => ?_) λ h9 => ?_
 ·refine RN.go 7 [] λ _ => ?_
  obtain ⟨qx10,ox10,Nx10,fx10,fzx10,hAx10,hqx10,hox10,hgx10⟩:=hr.at (k:=i_) (by omega)
  refine RN.sv 26 (congrArg (λ v_ => (.slice v_ n cap : Value)) hAx10) <| RN.ro (λ _ => (mc hqx10 mn)) <| RN.goP 2 [.ix i_,.rorow 0 (ox10 + i_) 0] [(ox10 * 1 + i_ * 1) = (ox10 + i_) * 1 + 0 /\ (ox10 + i_) < Nx10,(i_ : Int) = ((i_ : Nat) : Int) /\ i_ < n] λ _ => RN.sv 31 (congrArg (λ v_ => (.slice v_.A v_.n v_.c : Value)) hgx10) ?_
  obtain ⟨bw11,ow11,Nw11,fw11,cw11,ew11,hIw11,hiw11,hxw11,hcw11⟩:=hw.get (k:=i_) (by rw [hr.len]; omega)
  refine RN.sv 31 (congrArg (λ v_ : Rw => Value.slice v_.A v_.n v_.c) ew11) <| RN.go 7 [] λ _ => RN.ct [0] [0,2] (tick_both (gb:=g2) (mb:=mb) (c:=cw11) (k:=980000) (rs:=rs_) (ds:=ds_) (S:=S3) ((plM (rG S3 j xss) ⟨iniL S S.nb,[],0⟩ i_).get 0) (hT_.weak (by decide)) hU (get_cs hcs_ 0) hj hB (λ x hx => ro_ap (hTB x hx)) (ro_ap hE) (ro_ap hIw11) hiw11 (by have:=hxl i_ (by omega); omega) hxw11 ((hP S3 he5 i_ (by omega) hok_).imp (λ h_ => h_.cs hcs_.symm) id)) ?_
  rintro _ ⟨⟨A12,c13,n14⟩,T15,E16⟩ (⟨hk17,hM18,hs19,rfl⟩ | ⟨hk17,hM18,rfl⟩)
  ·dsimp only at hM18 hs19
   refine RN.go 23 [] λ _ => RN.appU (c':=c13) (tx:=49) effEOk (plE (rG S3 j xss) ⟨iniL S S.nb,[],0⟩ i_) (tkE (gmX S3 j (xss.getD i_ [])) N_) 3 rfl hs_ (by have h1_:=plE_len (rG S3 j xss) ⟨iniL S S.nb,[],0⟩ i_; have h2_:=tkE_len (gmX S3 j (xss.getD i_ [])) N_; omega) (hs19.src effEOk (by decide) (sub_ap 2)) ?_
   rintro A20 c21 T22 ⟨hs23,hz24⟩
   refine RN.go 3 [] λ _ => RN.draw [9] [] <| RD.go [] [0,4,1,5,2,6,3,7] [.own 0,.own 0] ?_
   have hbs_ : 0 <= (tkM (gmX S3 j (xss.getD i_ [])) N_).base /\ (tkM (gmX S3 j (xss.getD i_ [])) N_).base <= 1000000000:=by rw [tkM_base]; omega
   refine RD.cp [] 8 (λ X_ => (mark_b hM18 (sub_apX 1) hbs_)) <| RD.one 9 (RDO.ct [] [] [1] (disc_any (k2:=1000000) _ hM18 hbs_ (by decide)) ?_)
   rintro _ T25 ⟨rfl,hM26⟩
   refine RD.fin <| RN.goP 6 [.nw] [I64 ((i_ : Int) + 1)] λ _ => RN.sv 26 (congrArg (λ v_ => (.slice v_ n cap : Value)) hAx10.symm) <| RN.sv 11 (congrArg (λ v_ => (.slice A20 v_ c21 : Value)) (show (plE (rG S3 j xss) ⟨iniL S S.nb,[],0⟩ i_).length + (tkE (gmX S3 j (xss.getD i_ [])) N_).length = (plE (rG S3 j xss) ⟨iniL S S.nb,[],0⟩ (i_ + 1)).length by rw [plE,List.length_append,tkE_cs _ hcs_])) ?_
   refine mt8 (i_ + 1,A20,c21,⟨(tkM (gmX S3 j (xss.getD i_ [])) N_).cs,[],(tkM (gmX S3 j (xss.getD i_ [])) N_).base + ((tkM (gmX S3 j (xss.getD i_ [])) N_).lg.length : Int)⟩,T25,T22) [0,1] [0,1,2] ?_
   try dsimp only
   have hl2_:=hM18.len2
   refine ⟨⟨by omega,?_,hM26,⟨?_,?_⟩,?_,?_⟩,by omega⟩
   ·show (tkM (gmX S3 j (xss.getD i_ [])) N_).cs = _; rw [plM]; exact tkM_cs _ hcs_
   ·show 0 <= (tkM (gmX S3 j (xss.getD i_ [])) N_).base + _; omega
   ·show (tkM (gmX S3 j (xss.getD i_ [])) N_).base + _ <= _; have hb2_:=tkM_base (gmX S3 j (xss.getD i_ [])) N_; omega
   ·rw [plE,<- tkE_cs _ hcs_]; exact hs23
   ·intro k_ hk_; rcases Nat.lt_or_ge k_ i_ with h_ | h_
    ·exact hok_ k_ h_
    ·obtain rfl : k_ = i_:=by omega
     exact hk17.cs hcs_
  ·dsimp only at hM18
   refine RN.go 16 [] λ _ => RN.fx 40 (nf (decide_eq_false hk17)) <| RN.go 9 [] λ _ => RN.ret [] [] [] (v:=.tuple #[.slice none 0 0,.slice none 0 0,vI (wrongE S3.players (xss.getD i_ []).length (xss.getD i_ []) ((plM (rG S3 j xss) ⟨iniL S S.nb,[],0⟩ i_).get 0))]) (H':=(ap [] [])) ?_
   exact ⟨((S3,0,none,0),[],[]),by simp [ap],he5,.inr ⟨i_,by omega,hok_,hk17,rfl⟩⟩
 ·refine RN.go 12 [.own 0] λ _ => RN.ct (Hp:=[]) (Tp:=[]) [] [] (cells_ap mb N_ 1000000 T_ _ hT_ (sub_ap 0)) ?_
  rintro _ q27 rfl
  refine RN.go 6 [] λ _ => RN.ret [] [0] [1] (v:=.tuple #[vS q27 0 N_.cs.length N_.cs.length,.slice A_ ((plE (rG S3 j xss) ⟨iniL S S.nb,[],0⟩ i_).length) c_,vI 0]) (H':=(ap [(q27,.rows 1 N_.cs.length (irow N_.cs) 3 (0,0))] [E_])) ?_
  obtain rfl : i_ = n:=by omega
  refine ⟨((S3,q27,A_,c_),[(q27,.rows 1 N_.cs.length (irow N_.cs) 3 (0,0))],E_),by simp [ap],he5,.inl ⟨hok_,?_,hs_,?_⟩⟩
  ·rw [<- hcs_]
  ·rw [<- hcs_]
theorem run_any (S : Setup) (rs_ : List Bx) (ds_ : List Dr) (bp n cap j : Nat) (A : Option Addr) (rs : List Rw) (xss : List (List Inp)) (TB F : HL) (hS : SetIn F S) (hM : MapIn F S rs_ ds_) (h1 : 1 <= S.nb) (hrn : S.rn <= 1000000) (hdn : S.dn <= 1000000) (hsz : (sizeOf S).toNat <= 1000000) (hv : valE S rs_ ds_ = 0) (hj : j < 5) (hB : Book1 j bp TB) (hTB : ∀ x ∈ TB,x ∈ F) (hE : EffIn F) (hr : RowL rwE 44 F A n rs) (hw : RwsIn F rs xss) (hxl : ∀ k,k < n -> (xss.getD k []).length <= 1000000) (hn : n <= 50) (h9 : n <= 9) (hP : ∀ S2,SetEq S S2 -> ∀ i,i < n -> (∀ k,k < i -> TkOk S2 j (xss.getD k []) (plM (rG S2 j xss) ⟨iniL S S.nb,[],0⟩ k)) -> TkOk S2 j (xss.getD i []) (plM (rG S2 j xss) ⟨iniL S S.nb,[],0⟩ i) \/ ¬ wrongE S2.players (xss.getD i []).length (xss.getD i []) ((plM (rG S2 j xss) ⟨iniL S S.nb,[],0⟩ i).get 0) = 0) : Sp Tryz.prog 22 #[Setup.v S,vP bp 0,.slice A n cap] (ap [] []) F (λ u H' => ∃ x : (Setup × Nat × Option Addr × Nat) × HL × HL,H' = ap [] [x.2.1,x.2.2] /\ RunR S j n xss u x):=run_run S rs_ ds_ bp n cap j A rs xss TB F hS hM h1 hrn hdn hsz hv hj hB hTB hE hr hw hxl hn h9 hP
end Go.Proofs.YtgibcbhfmomfbaaGreatDoor
