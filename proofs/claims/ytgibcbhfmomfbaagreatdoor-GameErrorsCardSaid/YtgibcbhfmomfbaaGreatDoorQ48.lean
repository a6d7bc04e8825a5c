import Derived.Test.YtgibcbhfmomfbaaGreatDoorQ47
import Derived.Test.YtgibcbhfmomfbaaGreatDoorQ46
set_option maxHeartbeats 4000000
set_option maxRecDepth 100000
set_option linter.unusedSimpArgs false
set_option linter.unusedVariables false
namespace Go.Proofs.YtgibcbhfmomfbaaGreatDoor
open Go.RowKit
theorem rowsOf_cong {w:Nat} {g g':Nat -> Nat -> Value}:∀ {n:Nat},(∀ i k,i < n -> k < w -> g i k=g' i k) -> rowsOf w g n=rowsOf w g' n
 | 0,_=>rfl
 | n+1,h=>by
  rw [rowsOf,rowsOf,rowsOf_cong (n:=n) (λ i k hi hk=>h i k (by omega) hk)]
  congr 1
  apply List.map_congr_left
  intro k hk
  exact h n k (by omega) (List.mem_range.1 hk)
theorem zrow_den (n:Nat) (T:TypeId) (fz:Nat × Nat):(Blk.rows 3 n (zrow [vI 0,vI 0,vI 0]) T fz).den=(Blk.rows 3 n (rowE inpE (List.replicate n dI)) T fz).den:=by
 show Obj.cells ⟨_⟩ _ _=Obj.cells ⟨_⟩ _ _
 rw [rowsOf_cong (λ i k hi hk=>?_)]
 show _=inpE.cell ((List.replicate n dI).getD i dI) k
 rw [show (List.replicate n dI).getD i dI=dI by simp [hi]]
 rcases k with _ | _ | _ | k
 ·rfl
 ·rfl
 ·rfl
 ·omega
theorem inp_den {l:List Inp} {i:Nat} (h:i < l.length) (x:Inp) (n:Nat) (T:TypeId) (fz:Nat × Nat):(Blk.rows 3 n (updG (updG (updG (rowE inpE l) i 0 (vI x.dx)) i 1 (vI x.dy)) i 2 (vI x.act)) T fz).den=(Blk.rows 3 n (rowE inpE (l.set i x)) T fz).den:=by
 show Obj.cells ⟨_⟩ _ _=Obj.cells ⟨_⟩ _ _
 rw [rowsOf_cong (λ i' k hi hk=>?_)]
 show _=inpE.cell ((l.set i x).getD i' dI) k
 unfold updG
 by_cases e:i'=i
 ·subst e
  rw [getD_set_same h]
  rcases k with _ | _ | _ | k
  ·simp;rfl
  ·simp;rfl
  ·simp;rfl
  ·omega
 ·rw [getD_set_not (λ e2=>e e2.symm)]
  simp [e]
  rfl
theorem SlIs.full {α:Type} {e:Enc α} {T:TypeId} {l:List α} {b n:Nat} (h:l.length=n):SlIs e T l (some ⟨b,0,none⟩) n [(b,.rows e.w n (rowE e l) T (0,0))]:=.inr ⟨b,0,l,by rw [Nat.zero_mul],by rw [Nat.zero_add],by rw [Nat.zero_add];exact h,by omega,by simp⟩
theorem RowL.zn {α:Type} {e:Enc α} {T:TypeId} {F:HL} {A:Option Addr} {n:Nat} (h:n=0):RowL e T F A n []:=h ▸ .zero _
theorem RN.dnE {r:Option Nat} {P:Program} {N:Nat} {D:List Deferred} {F:HL} {w0:World} {R:HL} {s:Cfg} {Q:Exit -> Act -> World -> Prop} (i:Nat) {b b':Blk} (e:b.den=b'.den) (hk:RN r P N D F w0 R (dnC i b' s) Q) (h:(s.A[i]?).map (·.2)=some b:=by kernel_rfl):RN r P N D F w0 R s Q :=
 RN.dn i b' hk (by
  unfold dnB
  obtain ⟨x,hx,e2⟩:=Option.map_eq_some_iff.1 h
  rw [hx]
  show some x.2.den=_
  rw [e2,e])
theorem valE_pol {S:Setup} {rs:List Bx} {ds:List Dr} (h:valE S rs ds=0):∀ k,k < S.nb -> shOk (S.body k).sh:=by
 unfold valE at h
 split at h
 ·assumption
 ·omega
theorem valE_P {S:Setup} {rs:List Bx} {ds:List Dr} (h:valE S rs ds=0):valP S rs ds:=by
 unfold valE at h
 split at h
 ·split at h
  ·assumption
  ·omega
 ·omega
theorem shOk_len {s:Shp} (h:shOk s):(s.poly=[] \/ 3 <= s.poly.length) /\ s.poly.length <= 6:=by
 unfold shOk at h
 split at h
 ·next e=>exact ⟨.inl (List.eq_nil_of_length_eq_zero e),by omega⟩
 ·have:=h.1;exact ⟨.inr this.2.1,this.2.2⟩
theorem gnew_both (S:Setup) (rs:List Bx) (ds:List Dr) (bp:Nat) (F:HL) (hS:SetSh F S) (hM:MapIn F S rs ds) (hrn:S.rn <= 1000000) (hdn:S.dn <= 1000000):Sp Tryz.prog 9 #[Setup.v S,vP bp 0] (ap [] []) F (λ u H'=>∃ x:Nat × HL,H'=ap [] [x.2] /\ ((valE S rs ds=0 /\ u=.tuple #[vP x.1 0,vI 0]) \/ (¬ valE S rs ds=0 /\ u=.tuple #[.pointer none,vI (valE S rs ds)]))):=by
 by_cases hv:valE S rs ds=0
 ·have hp:=vnumP_iff.1 (valE_P hv).1
  have hcl:SetCl F S:=⟨⟨by omega,by omega⟩,hS.blk,hS.room,λ k hk=>⟨hS.pol k hk,(shOk_len (valE_pol hv k hk)).1⟩⟩
  refine (gnew_any S rs ds bp F hcl hM (by omega) hrn hdn (by unfold sizeOf;omega) hv 0 (by omega)).mono λ u H' h=>?_
  obtain ⟨⟨gb,S2,T⟩,rfl,rfl,_,_⟩:=h
  exact ⟨(gb,T),rfl,.inl ⟨hv,rfl⟩⟩
 ·refine (gnewx_run S rs ds bp F hS hM hv).mono λ u H' h=>?_
  obtain ⟨rfl,rfl⟩:=h
  exact ⟨(0,[]),by simp [ap],.inr ⟨hv,rfl⟩⟩
theorem tick_gb {rs:List Bx} {ds:List Dr} {S:Setup} {bp gb b o N c j k:Nat} {full xs:List Inp} {M:MemS} {TB G0 F:HL} (now:Int) (hG:GameH rs ds bp gb S M (k+20000) G0) (hnow:M.get 0=now) (hj:j < 5) (hB:Book1 j bp TB) (hTB:∀ x ∈ TB,x ∈ F) (hE:EffIn F) (hI:(b,.rows 3 N (inrow full) 24 (0,0)) ∈ F) (hir:o+xs.length <= N) (hni:xs.length <= 1000000) (hx:∀ k,k < xs.length -> full.getD (o+k) dI=xs.getD k dI) (hk:TkOk S j xs M \/ ¬ wrongE S.players xs.length xs now=0) :
  Sp Tryz.prog 15 #[vP gb 0,vS b (o * 3) xs.length c] (ap [] [G0]) F (λ u H'=>∃ x:(Option Addr × Nat × Nat) × HL × HL,H'=ap [] [x.2.1,x.2.2] /\
   ((TkOk S j xs M /\ GameH rs ds bp gb S (tkM (gmX S j xs) M) k x.2.1 /\ u=.tuple #[.slice x.1.1 (tkE (gmX S j xs) M).length x.1.2.1,vI ((x.1.2.2+1:Nat):Int),vI 0]) \/
    (¬ wrongE S.players xs.length xs now=0 /\ GameH rs ds bp gb S M k x.2.1 /\ u=.tuple #[.slice none 0 0,vI 0,vI (wrongE S.players xs.length xs now)]))):=by
 cases hG with
 | mk mb T U hM hU =>
  rw [ap_one]
  refine (tick_both (c:=c) now hM hU hnow hj hB hTB hE hI hir hni hx hk).mono λ u H' h=>?_
  obtain ⟨⟨⟨A,cc,m⟩,T1,E⟩,rfl,h⟩:=h
  rcases h with ⟨h1,h2,_,h3⟩ | ⟨h1,h2,h3⟩
  ·exact ⟨((A,cc,m),ap [(gb,.lit (gameL S bp mb) 88 (0,0))] [T1,U],E),by simp [ap],.inl ⟨h1,.mk mb _ _ h2 hU,h3⟩⟩
  ·exact ⟨((A,cc,m),ap [(gb,.lit (gameL S bp mb) 88 (0,0))] [T1,U],E),by simp [ap],.inr ⟨h1,.mk mb _ _ h2 hU,h3⟩⟩
theorem gnow_g {rs:List Bx} {ds:List Dr} {S:Setup} {bp gb k:Nat} {M:MemS} {G F:HL} (hG:GameH rs ds bp gb S M k G) (hF:∀ x ∈ G,x ∈ F) {e:Int} (he:M.get 0=e):Sp Tryz.prog 17 #[vP gb 0] [] F (λ u H'=>u=vI e /\ H'=[]):=by
 subst he
 cases hG with
 | mk mb T U hM hU=>exact gnow_any S bp gb mb M k T F (hF _ (by simp [ap])) hM (λ x hx=>hF x (by simp [ap,hx]))
theorem wrong17 {pl:Int} {n:Nat} {xs:List Inp} {now:Int} (h:¬ (n:Int)=pl):wrongE pl n xs now=17:=by rw [wrongE,if_neg h]
theorem wrong_17 {S:Setup} {A:Option Addr} {n cap:Nat} {xs:List Inp} {F:HL} (hl:RowL inpE 24 F A n xs) (hn:n <= 1000000) (e:¬ (n:Int)=S.players) (now:Int):Sp Tryz.prog 16 #[Setup.v S,vI now,.slice A n cap] [] F (λ u H'=>u=vI 17 /\ H'=[]):=by
 have h:=wrong_any S now A n cap xs F hl hn
 rwa [wrong17 e] at h
theorem errs_any (A0:Option Addr) (n0 c0:Nat) (xs:List Int) (i1 i2 i3 i5:Int) (p4:Inp) (F:HL) (hE0:TabIn F) (hE1:EffIn F) (hl0:ArgD F A0 n0 xs) (hn0:n0 <= 9223372036854775807) (hi1:i64r i1) (hi2:i64r i2) (hi5:i64r i5):Sp Tryz.prog 3 #[.slice A0 n0 c0,vI i1,vI i2,vI i3,.agg #[vI p4.dx,vI p4.dy,vI p4.act],vI i5] [] F (λ u H'=>u=.bool true /\ H'=[]):=by
 refine Sp.run Tryz.func3 rfl mn (A:=[]) (Ts:=[]) rfl λ w0=>?_
 refine RN.go 9 [] λ n1=>RN.ct (Hp:=[]) (Tp:=[]) [] [] (hl0.up.use λ F_ h_=>setup_ap A0 n0 c0 xs _ h_ hn0) ?_
 rintro _ ⟨S,TS⟩ ⟨rfl,hG⟩
 dsimp only at hG
 have hF:=gfacts hl0 hG
 have hpl:=hF.pl
 have hnb:=hF.nb
 have hrn:=hF.rn
 have hdn:=hF.dn
 have hsz:=hF.sz
 have hil:=iniL_len S S.nb
 have hV:SetV S:=hl0.ex.elim λ _ h_=>setV h_ hG
 have hpol:∀ k,k < S.nb -> (S.body k).sh.poly.length <= 6:=λ k hk=>(shOk_len (valE_pol hF.val k hk)).2
 refine RN.go 6 (ow 0 16) λ n2=>RN.ct (Hp:=[]) (Tp:=[]) [] [] (bookm_any 1 _ ⟨by decide,by decide⟩ (ro_ap hE0)) ?_
 rintro _ ⟨b3,T4⟩ ⟨rfl,hB5⟩
 dsimp only at hB5
 have hj:(around 1 5).toNat < 5:=by decide
 refine RN.go 18 (ow 0 16) λ _=>RN.ct (Hp:=[]) (Tp:=[]) [] [] (bent_any S genR (genD (kv xs 3 % 3).toNat) i1 i2 _ (hG.sin _ (in_ap 1) (sub_ap 1)).toSh (hG.maps.2 _ (sub_ap 1)) (by omega) (by omega) hrn (by omega) hpol hi1 hi2) ?_
 rintro _ ⟨S6,rs7,ds8,T9⟩ ⟨rfl,hb10⟩
 dsimp only at hb10
 refine RN.go 8 (ow 0 32) λ n11=>RN.ct (Hp:=[]) (Tp:=[]) [] [] (gnew_both S6 rs7 ds8 b3 _ (hb10.1 _ (sub_ap 0) (hG.sin _ (in_ap 2) (sub_ap 2)).toSh).1 (hb10.1 _ (sub_ap 0) (hG.sin _ (in_ap 2) (sub_ap 2)).toSh).2 hb10.2.1 hb10.2.2) ?_
 rintro _ ⟨x12,T13⟩ (⟨hv14,rfl⟩ | ⟨hv14,rfl⟩)
 ·refine RN.go 12 (ow 0 16) λ _=>RN.cp (rvalidate_any S6 rs7 ds8 _ (hb10.1 _ (sub_ap 1) (hG.sin _ (in_ap 2) (sub_ap 3)).toSh).1 (hb10.1 _ (sub_ap 1) (hG.sin _ (in_ap 2) (sub_ap 3)).toSh).2)<|RN.go 2 [] λ _=>RN.fx 43 (nt (decide_eq_true hv14.symm))<|RN.go 4 [] λ _=>RN.go 11 (ow 1 16) λ _=>RN.ct (Hp:=[]) (Tp:=[]) [] [] (started_any S genR (genD (kv xs 3 % 3).toNat) b3 _ (hG.sin _ (in_ap 2) (sub_ap 3)).cl (hG.maps.2 _ (sub_ap 3)) (by omega) (by omega) (by omega) (by omega) hF.val 1000000 (by decide)) ?_
  rintro _ ⟨g15,S16,T17⟩ ⟨rfl,he18,hg19⟩
  dsimp only at he18 hg19
  refine RN.goP 23 [.own 1,.mk ((S.players).toNat) ((S.players).toNat)] [S.players=(((S.players).toNat:Nat):Int) /\ S.players=(((S.players).toNat:Nat):Int) /\ (S.players).toNat <= (S.players).toNat /\ 24 * ((S.players).toNat) <= 140737488355328 /\ 3=3 /\ (S.players).toNat <= 9223372036854775807] λ n20=>RN.dnE 0 (zrow_den ((S.players).toNat) 24 (0,0))<|RN.go 2 [] λ _=>RN.cp (around_any i3 3 (by decide) _)<|RN.go 9 [] λ _=>RN.em (around i3 3=0) 62 (λ h21=>?_) λ h21=>?_
  ·refine RN.go 1 [] λ _=>RN.draw [7] []<|RD.go [] [0,1,2,5,3] [.own 4,.own 4,.own 4,.own 2] ?_
   obtain ⟨pp,hpk,hpp⟩:∃ pp:Nat,around i5 S.players=(pp:Int) /\ pp < S.players.toNat:=⟨(around i5 S.players).toNat,by have:=around_bd (n:=i5) hi5 S.players (by omega);omega,by have:=around_bd (n:=i5) hi5 S.players (by omega);omega⟩
   refine RD.cp [] 4 (λ X_=>(around_b hpk (by omega) _))<|RD.goP [] [6] [.ix pp] [(pp:Int)=((pp:Nat):Int) /\ pp < ((S.players).toNat)]<|RD.one 7 (RDO.evP [] [.row 0 pp 0,.row 0 pp 1,.row 0 pp 2] [((0+pp * 3)+2)=pp * 3+2 /\ pp < ((S.players).toNat),((0+pp * 3)+1)=pp * 3+1 /\ pp < ((S.players).toNat),(0+pp * 3)=pp * 3+0 /\ pp < ((S.players).toNat)] λ _=>?_)
   refine RD.fin<|RN.go 3 [] λ _=>RN.dnE 0 (inp_den (l:=(List.replicate S.players.toNat dI)) (i:=pp) (by simp;omega) p4 ((S.players).toNat) 24 (0,0))<|RN.sv 19 (congrArg (λ v_=>(.slice (some ⟨(n20+0),0,none⟩) v_ ((S.players).toNat):Value)) (show S.players.toNat=((List.replicate S.players.toNat dI).set pp p4).length by simp)) ?_
   have hrl_:(((List.replicate S.players.toNat dI).set pp p4).length:Int)=S.players:=by simp;omega
   refine RN.go 2 [] λ _=>?_
   obtain ⟨m22,Tm22,Mm22,Sm22,sm22⟩:=gmem_of hg19
   refine RN.cp (sm22 _ (sub_ap 0))<|RN.ct (Hp:=[]) (Tp:=[]) [] [] (cells_ap m22 (⟨iniL S S.nb,[],0⟩) 1000000 Tm22 _ Mm22 (λ x hx=>(sub_ap 0) x (Sm22 x hx))) ?_
   rintro _ q23 rfl
   refine RN.go 7 [] λ _=>?_
   have hcas_:TkOk S16 (around 1 5).toNat ((List.replicate S.players.toNat dI).set pp p4) ⟨iniL S S.nb,[],0⟩ \/ ¬ wrongE S16.players ((List.replicate S.players.toNat dI).set pp p4).length ((List.replicate S.players.toNat dI).set pp p4) 0=0:=by
    by_cases hall:∀ k,k < ((List.replicate S.players.toNat dI).set pp p4).length -> okIn (((List.replicate S.players.toNat dI).set pp p4).getD k dI)
    ·exact .inl (tk_ok1 (he18.setV hV) (t:=0) (by omega) (ini_eq hV he18) (by rw [he18.pl];exact hrl_) hall _).1
    ·exact .inr (by rw [wrong1 (by rw [he18.pl];exact hrl_) hall];decide)
   refine RN.ct [] [0] (tick_gb (N:=S.players.toNat) (xs:=((List.replicate S.players.toNat dI).set pp p4)) (full:=((List.replicate S.players.toNat dI).set pp p4)) (b:=(n20+0)) (k:=0) (S:=S16) (o:=0) (c:=S.players.toNat) 0 (hg19.weak (by omega)) (ini_eq hV he18).t0 hj hB5 (sub_ap 2) (ro_ap hE1) (in_ap 1) (by omega) (by omega) (λ k_ hk_=>by rw [Nat.zero_add]) hcas_) ?_
   rintro _ ⟨⟨A24,c25,n26⟩,T27,E28⟩ (⟨hk29,hg30,rfl⟩ | ⟨hk29,hg30,rfl⟩)
   ·dsimp only at hg30
    have hw0_:0=wrongE S.players ((List.replicate S.players.toNat dI).set pp p4).length ((List.replicate S.players.toNat dI).set pp p4) 0:=by have h_:=hk29.ok;rw [(ini_eq hV he18).t0,he18.pl] at h_;exact h_.symm
    have hnow_:(tkM (gmX S16 (around 1 5).toNat ((List.replicate S.players.toNat dI).set pp p4)) ⟨iniL S S.nb,[],0⟩).get 0=1:=(tk_ok1 (he18.setV hV) (t:=0) (by omega) (ini_eq hV he18) (by rw [he18.pl];exact hrl_) (λ k hk_=>by
     have h_:=hw0_.symm;unfold wrongE at h_;rw [if_pos hrl_] at h_;split at h_
     ·next h2_=>exact h2_ k hk_
     ·omega) _).2.t0
    refine RN.go 15 (ow 3 16) λ _=>RN.cp (wrong_b (S:=S) (xs:=((List.replicate S.players.toNat dI).set pp p4)) (A:=some ⟨(n20+0),0 * 3,none⟩) (cap:=S.players.toNat) (.rows (n20+0) 0 S.players.toNat ((List.replicate S.players.toNat dI).set pp p4) (0,0) _ _ (in_ap 1) (by omega) rfl (λ k_ hk_=>by rw [Nat.zero_add])) (by omega) rfl 0)<|RN.go 3 [] λ _=>RN.fx 91 (nt (decide_eq_true hw0_))<|RN.go 16 [] λ _=>RN.cp (gnow_g hg30 (sub_ap 0) hnow_)<|RN.go 2 [] λ _=>RN.cp (lives_in (ro_ap hE0))<|RN.go 4 [] λ _=>?_
    exact RN.ret [] [] [] ⟨rfl,rfl⟩
   ·dsimp only at hg30
    refine RN.sv 83 (congrArg (λ v_=>(.tuple #[.slice none 0 0,vI 0,vI (wrongE v_ ((List.replicate S.players.toNat dI).set pp p4).length ((List.replicate S.players.toNat dI).set pp p4) 0)]:Value)) he18.pl) ?_
    rw [he18.pl] at hk29
    refine RN.go 15 (ow 3 16) λ _=>RN.cp (wrong_b (S:=S) (xs:=((List.replicate S.players.toNat dI).set pp p4)) (A:=some ⟨(n20+0),0 * 3,none⟩) (cap:=S.players.toNat) (.rows (n20+0) 0 S.players.toNat ((List.replicate S.players.toNat dI).set pp p4) (0,0) _ _ (in_ap 1) (by omega) rfl (λ k_ hk_=>by rw [Nat.zero_add])) (by omega) rfl 0)<|RN.go 3 [] λ _=>RN.fx 91 (nt (decide_eq_true (rfl:wrongE S.players ((List.replicate S.players.toNat dI).set pp p4).length ((List.replicate S.players.toNat dI).set pp p4) 0=_)))<|RN.go 10 [] λ _=>RN.fx 93 (nf (decide_eq_false hk29))<|RN.go 12 [] λ _=>RN.cp (gnow_g hg30 (sub_ap 0) (ini_eq hV he18).t0)<|RN.go 4 [] λ _=>?_
    obtain ⟨m31,Tm31,Mm31,Sm31,sm31⟩:=gmem_of hg30
    refine RN.cp (sm31 _ (sub_ap 0))<|RN.ct (Hp:=[]) (Tp:=[]) [] [] (cells_ap m31 (⟨iniL S S.nb,[],0⟩) 0 Tm31 _ Mm31 (λ x hx=>(sub_ap 0) x (Sm31 x hx))) ?_
    rintro _ q32 rfl
    refine RN.go 1 [] λ _=>RN.cp (sameI_b true q32 q23 ((iniL S S.nb).length) ((iniL S S.nb).length) ((iniL S S.nb).length) ((iniL S S.nb).length) ((iniL S S.nb).length) ((iniL S S.nb).length) (iniL S S.nb) (iniL S S.nb) _ (in_ap 0) (in_ap 1) (Nat.le_refl _) (Nat.le_refl _) (by omega) (decide_eq_true ⟨rfl,λ t ht=>rfl⟩))<|RN.go 2 [] λ _=>RN.cp (lives_in (ro_ap hE0))<|RN.go 4 [] λ _=>?_
    exact RN.ret [] [] [] ⟨rfl,rfl⟩
  ·refine RN.go 7 [] λ _=>RN.em (around i3 3=1) 71 (λ h33=>?_) λ h33=>?_
   ·refine RN.go 5 [.own 4,.own 4,.own 4] λ n34=>RN.bt 1<|RN.app inpEOk (List.replicate S.players.toNat dI) [p4] 0 0 (show S.players.toNat=(List.replicate S.players.toNat dI).length by simp) (SlIs.full (n:=S.players.toNat) (b:=(n20+0)) (show (List.replicate S.players.toNat dI).length=S.players.toNat by simp)) (by simp;omega) ?_
    rintro A35 c36 T37 ⟨hs38,hz39⟩
    refine RN.go 5 [] λ _=>RN.go 2 [] λ _=>?_
    obtain ⟨m40,Tm40,Mm40,Sm40,sm40⟩:=gmem_of hg19
    refine RN.cp (sm40 _ (sub_ap 1))<|RN.ct (Hp:=[]) (Tp:=[]) [] [] (cells_ap m40 (⟨iniL S S.nb,[],0⟩) 1000000 Tm40 _ Mm40 (λ x hx=>(sub_ap 1) x (Sm40 x hx))) ?_
    rintro _ q41 rfl
    refine RN.go 7 [] λ _=>RN.ct [] [1] (tickx_any (xs:=((List.replicate S.players.toNat dI)++[p4])) (n:=(S.players.toNat+1)) (cap:=c36) (A:=A35) 17 (hg19.weak (Nat.zero_le _)) (hs38.rowN (sub_ap 0) (by simp)) (by omega) (wrong17 (by rw [he18.pl];omega)) (by decide)) ?_
    rintro _ T42 ⟨hg43,rfl⟩
    refine RN.go 15 (ow 3 16) λ _=>RN.cp (wrong_17 (S:=S) (n:=(S.players.toNat+1)) (cap:=c36) (A:=A35) (xs:=((List.replicate S.players.toNat dI)++[p4])) (hs38.rowN (sub_ap 1) (by simp)) (by omega) (by omega) 0)<|RN.go 25 [] λ _=>RN.cp (gnow_g hg43 (sub_ap 0) (ini_eq hV he18).t0)<|RN.go 4 [] λ _=>?_
    obtain ⟨m44,Tm44,Mm44,Sm44,sm44⟩:=gmem_of hg43
    refine RN.cp (sm44 _ (sub_ap 0))<|RN.ct (Hp:=[]) (Tp:=[]) [] [] (cells_ap m44 (⟨iniL S S.nb,[],0⟩) 0 Tm44 _ Mm44 (λ x hx=>(sub_ap 0) x (Sm44 x hx))) ?_
    rintro _ q45 rfl
    refine RN.go 1 [] λ _=>RN.cp (sameI_b true q45 q41 ((iniL S S.nb).length) ((iniL S S.nb).length) ((iniL S S.nb).length) ((iniL S S.nb).length) ((iniL S S.nb).length) ((iniL S S.nb).length) (iniL S S.nb) (iniL S S.nb) _ (in_ap 0) (in_ap 1) (Nat.le_refl _) (Nat.le_refl _) (by omega) (decide_eq_true ⟨rfl,λ t ht=>rfl⟩))<|RN.go 2 [] λ _=>RN.cp (lives_in (ro_ap hE0))<|RN.go 4 [] λ _=>?_
    exact RN.ret [] [] [] ⟨rfl,rfl⟩
   ·refine RN.go 1 [] λ _=>?_
    by_cases hpe:S.players=1
    ·refine RN.goP 8 [.sl 1 ((S.players).toNat) true] [1=((1:Nat):Int) /\ (S.players).toNat=(S.players).toNat /\ 1 <= (S.players).toNat /\ (S.players).toNat <= (S.players).toNat /\ (S.players).toNat=1] λ _=>RN.go 2 [] λ _=>?_
     obtain ⟨m46,Tm46,Mm46,Sm46,sm46⟩:=gmem_of hg19
     refine RN.cp (sm46 _ (sub_ap 0))<|RN.ct (Hp:=[]) (Tp:=[]) [] [] (cells_ap m46 (⟨iniL S S.nb,[],0⟩) 1000000 Tm46 _ Mm46 (λ x hx=>(sub_ap 0) x (Sm46 x hx))) ?_
     rintro _ q47 rfl
     refine RN.go 7 [] λ _=>RN.ct [] [0] (tickx_any (xs:=([]:List Inp)) (n:=((S.players).toNat - 1)) (cap:=((S.players).toNat - 1)) (A:=(some ⟨(n20+0),0,none⟩)) 17 (hg19.weak (Nat.zero_le _)) (RowL.zn (by omega)) (by omega) (wrong17 (by rw [he18.pl];omega)) (by decide)) ?_
     rintro _ T48 ⟨hg49,rfl⟩
     refine RN.go 15 (ow 3 16) λ _=>RN.cp (wrong_17 (S:=S) (n:=((S.players).toNat - 1)) (cap:=((S.players).toNat - 1)) (A:=(some ⟨(n20+0),0,none⟩)) (xs:=([]:List Inp)) (RowL.zn (by omega)) (by omega) (by omega) 0)<|RN.go 25 [] λ _=>RN.cp (gnow_g hg49 (sub_ap 0) (ini_eq hV he18).t0)<|RN.go 4 [] λ _=>?_
     obtain ⟨m50,Tm50,Mm50,Sm50,sm50⟩:=gmem_of hg49
     refine RN.cp (sm50 _ (sub_ap 0))<|RN.ct (Hp:=[]) (Tp:=[]) [] [] (cells_ap m50 (⟨iniL S S.nb,[],0⟩) 0 Tm50 _ Mm50 (λ x hx=>(sub_ap 0) x (Sm50 x hx))) ?_
     rintro _ q51 rfl
     refine RN.go 1 [] λ _=>RN.cp (sameI_b true q51 q47 ((iniL S S.nb).length) ((iniL S S.nb).length) ((iniL S S.nb).length) ((iniL S S.nb).length) ((iniL S S.nb).length) ((iniL S S.nb).length) (iniL S S.nb) (iniL S S.nb) _ (in_ap 0) (in_ap 1) (Nat.le_refl _) (Nat.le_refl _) (by omega) (decide_eq_true ⟨rfl,λ t ht=>rfl⟩))<|RN.go 2 [] λ _=>RN.cp (lives_in (ro_ap hE0))<|RN.go 4 [] λ _=>?_
     exact RN.ret [] [] [] ⟨rfl,rfl⟩
    ·refine RN.goP 8 [.sl 1 ((S.players).toNat) false] [1=((1:Nat):Int) /\ (S.players).toNat=(S.players).toNat /\ 1 <= (S.players).toNat /\ (S.players).toNat <= (S.players).toNat /\ (S.players).toNat ≠ 1] λ _=>RN.go 2 [] λ _=>?_
     obtain ⟨m52,Tm52,Mm52,Sm52,sm52⟩:=gmem_of hg19
     refine RN.cp (sm52 _ (sub_ap 0))<|RN.ct (Hp:=[]) (Tp:=[]) [] [] (cells_ap m52 (⟨iniL S S.nb,[],0⟩) 1000000 Tm52 _ Mm52 (λ x hx=>(sub_ap 0) x (Sm52 x hx))) ?_
     rintro _ q53 rfl
     refine RN.go 7 [] λ _=>RN.ct [] [0] (tickx_any (xs:=((List.replicate S.players.toNat dI).drop 1)) (n:=((S.players).toNat - 1)) (cap:=((S.players).toNat - 1)) (A:=(some ⟨(n20+0),3,none⟩)) 17 (hg19.weak (Nat.zero_le _)) (.rows (n20+0) 1 S.players.toNat (List.replicate S.players.toNat dI) (0,0) ((S.players).toNat - 1) ((List.replicate S.players.toNat dI).drop 1) (in_ap 1) (by omega) (by simp) (λ k_ hk_=>by rw [List.getD_eq_getElem?_getD,List.getD_eq_getElem?_getD,List.getElem?_drop])) (by omega) (wrong17 (by rw [he18.pl];omega)) (by decide)) ?_
     rintro _ T54 ⟨hg55,rfl⟩
     refine RN.go 15 (ow 3 16) λ _=>RN.cp (wrong_17 (S:=S) (n:=((S.players).toNat - 1)) (cap:=((S.players).toNat - 1)) (A:=(some ⟨(n20+0),3,none⟩)) (xs:=((List.replicate S.players.toNat dI).drop 1)) (.rows (n20+0) 1 S.players.toNat (List.replicate S.players.toNat dI) (0,0) ((S.players).toNat - 1) ((List.replicate S.players.toNat dI).drop 1) (in_ap 1) (by omega) (by simp) (λ k_ hk_=>by rw [List.getD_eq_getElem?_getD,List.getD_eq_getElem?_getD,List.getElem?_drop])) (by omega) (by omega) 0) ?_
     refine RN.go 25 [] λ _=>RN.cp (gnow_g hg55 (sub_ap 0) (ini_eq hV he18).t0)<|RN.go 4 [] λ _=>?_
     obtain ⟨m56,Tm56,Mm56,Sm56,sm56⟩:=gmem_of hg55
     refine RN.cp (sm56 _ (sub_ap 0))<|RN.ct (Hp:=[]) (Tp:=[]) [] [] (cells_ap m56 (⟨iniL S S.nb,[],0⟩) 0 Tm56 _ Mm56 (λ x hx=>(sub_ap 0) x (Sm56 x hx))) ?_
     rintro _ q57 rfl
     refine RN.go 1 [] λ _=>RN.cp (sameI_b true q57 q53 ((iniL S S.nb).length) ((iniL S S.nb).length) ((iniL S S.nb).length) ((iniL S S.nb).length) ((iniL S S.nb).length) ((iniL S S.nb).length) (iniL S S.nb) (iniL S S.nb) _ (in_ap 0) (in_ap 1) (Nat.le_refl _) (Nat.le_refl _) (by omega) (decide_eq_true ⟨rfl,λ t ht=>rfl⟩))<|RN.go 2 [] λ _=>RN.cp (lives_in (ro_ap hE0))<|RN.go 4 [] λ _=>?_
     exact RN.ret [] [] [] ⟨rfl,rfl⟩
 ·refine RN.go 12 (ow 0 16) λ _=>RN.cp (rvalidate_any S6 rs7 ds8 _ (hb10.1 _ (sub_ap 1) (hG.sin _ (in_ap 2) (sub_ap 3)).toSh).1 (hb10.1 _ (sub_ap 1) (hG.sin _ (in_ap 2) (sub_ap 3)).toSh).2)<|RN.go 2 [] λ _=>RN.fx 43 (nt (decide_eq_true (rfl:valE S6 rs7 ds8=_)))<|RN.go 4 [] λ _=>RN.fx 47 (decide_eq_false hv14)<|RN.go 11 (ow 1 16) λ _=>RN.ct (Hp:=[]) (Tp:=[]) [] [] (started_any S genR (genD (kv xs 3 % 3).toNat) b3 _ (hG.sin _ (in_ap 2) (sub_ap 3)).cl (hG.maps.2 _ (sub_ap 3)) (by omega) (by omega) (by omega) (by omega) hF.val 1000000 (by decide)) ?_
  rintro _ ⟨g58,S59,T60⟩ ⟨rfl,he61,hg62⟩
  dsimp only at he61 hg62
  refine RN.goP 23 [.own 1,.mk ((S.players).toNat) ((S.players).toNat)] [S.players=(((S.players).toNat:Nat):Int) /\ S.players=(((S.players).toNat:Nat):Int) /\ (S.players).toNat <= (S.players).toNat /\ 24 * ((S.players).toNat) <= 140737488355328 /\ 3=3 /\ (S.players).toNat <= 9223372036854775807] λ n63=>RN.dnE 0 (zrow_den ((S.players).toNat) 24 (0,0))<|RN.go 2 [] λ _=>RN.cp (around_any i3 3 (by decide) _)<|RN.go 9 [] λ _=>RN.em (around i3 3=0) 62 (λ h64=>?_) λ h64=>?_
  ·refine RN.go 1 [] λ _=>RN.draw [7] []<|RD.go [] [0,1,2,5,3] [.own 4,.own 4,.own 4,.own 2] ?_
   obtain ⟨pp,hpk,hpp⟩:∃ pp:Nat,around i5 S.players=(pp:Int) /\ pp < S.players.toNat:=⟨(around i5 S.players).toNat,by have:=around_bd (n:=i5) hi5 S.players (by omega);omega,by have:=around_bd (n:=i5) hi5 S.players (by omega);omega⟩
   refine RD.cp [] 4 (λ X_=>(around_b hpk (by omega) _))<|RD.goP [] [6] [.ix pp] [(pp:Int)=((pp:Nat):Int) /\ pp < ((S.players).toNat)]<|RD.one 7 (RDO.evP [] [.row 0 pp 0,.row 0 pp 1,.row 0 pp 2] [((0+pp * 3)+2)=pp * 3+2 /\ pp < ((S.players).toNat),((0+pp * 3)+1)=pp * 3+1 /\ pp < ((S.players).toNat),(0+pp * 3)=pp * 3+0 /\ pp < ((S.players).toNat)] λ _=>?_)
   refine RD.fin<|RN.go 3 [] λ _=>RN.dnE 0 (inp_den (l:=(List.replicate S.players.toNat dI)) (i:=pp) (by simp;omega) p4 ((S.players).toNat) 24 (0,0))<|RN.sv 19 (congrArg (λ v_=>(.slice (some ⟨(n63+0),0,none⟩) v_ ((S.players).toNat):Value)) (show S.players.toNat=((List.replicate S.players.toNat dI).set pp p4).length by simp)) ?_
   have hrl_:(((List.replicate S.players.toNat dI).set pp p4).length:Int)=S.players:=by simp;omega
   refine RN.go 2 [] λ _=>?_
   obtain ⟨m65,Tm65,Mm65,Sm65,sm65⟩:=gmem_of hg62
   refine RN.cp (sm65 _ (sub_ap 0))<|RN.ct (Hp:=[]) (Tp:=[]) [] [] (cells_ap m65 (⟨iniL S S.nb,[],0⟩) 1000000 Tm65 _ Mm65 (λ x hx=>(sub_ap 0) x (Sm65 x hx))) ?_
   rintro _ q66 rfl
   refine RN.go 7 [] λ _=>?_
   have hcas_:TkOk S59 (around 1 5).toNat ((List.replicate S.players.toNat dI).set pp p4) ⟨iniL S S.nb,[],0⟩ \/ ¬ wrongE S59.players ((List.replicate S.players.toNat dI).set pp p4).length ((List.replicate S.players.toNat dI).set pp p4) 0=0:=by
    by_cases hall:∀ k,k < ((List.replicate S.players.toNat dI).set pp p4).length -> okIn (((List.replicate S.players.toNat dI).set pp p4).getD k dI)
    ·exact .inl (tk_ok1 (he61.setV hV) (t:=0) (by omega) (ini_eq hV he61) (by rw [he61.pl];exact hrl_) hall _).1
    ·exact .inr (by rw [wrong1 (by rw [he61.pl];exact hrl_) hall];decide)
   refine RN.ct [] [0] (tick_gb (N:=S.players.toNat) (xs:=((List.replicate S.players.toNat dI).set pp p4)) (full:=((List.replicate S.players.toNat dI).set pp p4)) (b:=(n63+0)) (k:=0) (S:=S59) (o:=0) (c:=S.players.toNat) 0 (hg62.weak (by omega)) (ini_eq hV he61).t0 hj hB5 (sub_ap 2) (ro_ap hE1) (in_ap 1) (by omega) (by omega) (λ k_ hk_=>by rw [Nat.zero_add]) hcas_) ?_
   rintro _ ⟨⟨A67,c68,n69⟩,T70,E71⟩ (⟨hk72,hg73,rfl⟩ | ⟨hk72,hg73,rfl⟩)
   ·dsimp only at hg73
    have hw0_:0=wrongE S.players ((List.replicate S.players.toNat dI).set pp p4).length ((List.replicate S.players.toNat dI).set pp p4) 0:=by have h_:=hk72.ok;rw [(ini_eq hV he61).t0,he61.pl] at h_;exact h_.symm
    have hnow_:(tkM (gmX S59 (around 1 5).toNat ((List.replicate S.players.toNat dI).set pp p4)) ⟨iniL S S.nb,[],0⟩).get 0=1:=(tk_ok1 (he61.setV hV) (t:=0) (by omega) (ini_eq hV he61) (by rw [he61.pl];exact hrl_) (λ k hk_=>by
     have h_:=hw0_.symm;unfold wrongE at h_;rw [if_pos hrl_] at h_;split at h_
     ·next h2_=>exact h2_ k hk_
     ·omega) _).2.t0
    refine RN.go 15 (ow 3 16) λ _=>RN.cp (wrong_b (S:=S) (xs:=((List.replicate S.players.toNat dI).set pp p4)) (A:=some ⟨(n63+0),0 * 3,none⟩) (cap:=S.players.toNat) (.rows (n63+0) 0 S.players.toNat ((List.replicate S.players.toNat dI).set pp p4) (0,0) _ _ (in_ap 1) (by omega) rfl (λ k_ hk_=>by rw [Nat.zero_add])) (by omega) rfl 0)<|RN.go 3 [] λ _=>RN.fx 91 (nt (decide_eq_true hw0_))<|RN.go 16 [] λ _=>RN.cp (gnow_g hg73 (sub_ap 0) hnow_)<|RN.go 2 [] λ _=>RN.cp (lives_in (ro_ap hE0))<|RN.go 4 [] λ _=>?_
    exact RN.ret [] [] [] ⟨rfl,rfl⟩
   ·dsimp only at hg73
    refine RN.sv 83 (congrArg (λ v_=>(.tuple #[.slice none 0 0,vI 0,vI (wrongE v_ ((List.replicate S.players.toNat dI).set pp p4).length ((List.replicate S.players.toNat dI).set pp p4) 0)]:Value)) he61.pl) ?_
    rw [he61.pl] at hk72
    refine RN.go 15 (ow 3 16) λ _=>RN.cp (wrong_b (S:=S) (xs:=((List.replicate S.players.toNat dI).set pp p4)) (A:=some ⟨(n63+0),0 * 3,none⟩) (cap:=S.players.toNat) (.rows (n63+0) 0 S.players.toNat ((List.replicate S.players.toNat dI).set pp p4) (0,0) _ _ (in_ap 1) (by omega) rfl (λ k_ hk_=>by rw [Nat.zero_add])) (by omega) rfl 0)<|RN.go 3 [] λ _=>RN.fx 91 (nt (decide_eq_true (rfl:wrongE S.players ((List.replicate S.players.toNat dI).set pp p4).length ((List.replicate S.players.toNat dI).set pp p4) 0=_)))<|RN.go 10 [] λ _=>RN.fx 93 (nf (decide_eq_false hk72))<|RN.go 12 [] λ _=>RN.cp (gnow_g hg73 (sub_ap 0) (ini_eq hV he61).t0)<|RN.go 4 [] λ _=>?_
    obtain ⟨m74,Tm74,Mm74,Sm74,sm74⟩:=gmem_of hg73
    refine RN.cp (sm74 _ (sub_ap 0))<|RN.ct (Hp:=[]) (Tp:=[]) [] [] (cells_ap m74 (⟨iniL S S.nb,[],0⟩) 0 Tm74 _ Mm74 (λ x hx=>(sub_ap 0) x (Sm74 x hx))) ?_
    rintro _ q75 rfl
    refine RN.go 1 [] λ _=>RN.cp (sameI_b true q75 q66 ((iniL S S.nb).length) ((iniL S S.nb).length) ((iniL S S.nb).length) ((iniL S S.nb).length) ((iniL S S.nb).length) ((iniL S S.nb).length) (iniL S S.nb) (iniL S S.nb) _ (in_ap 0) (in_ap 1) (Nat.le_refl _) (Nat.le_refl _) (by omega) (decide_eq_true ⟨rfl,λ t ht=>rfl⟩))<|RN.go 2 [] λ _=>RN.cp (lives_in (ro_ap hE0))<|RN.go 4 [] λ _=>?_
    exact RN.ret [] [] [] ⟨rfl,rfl⟩
  ·refine RN.go 7 [] λ _=>RN.em (around i3 3=1) 71 (λ h76=>?_) λ h76=>?_
   ·refine RN.go 5 [.own 4,.own 4,.own 4] λ n77=>RN.bt 1<|RN.app inpEOk (List.replicate S.players.toNat dI) [p4] 0 0 (show S.players.toNat=(List.replicate S.players.toNat dI).length by simp) (SlIs.full (n:=S.players.toNat) (b:=(n63+0)) (show (List.replicate S.players.toNat dI).length=S.players.toNat by simp)) (by simp;omega) ?_
    rintro A78 c79 T80 ⟨hs81,hz82⟩
    refine RN.go 5 [] λ _=>RN.go 2 [] λ _=>?_
    obtain ⟨m83,Tm83,Mm83,Sm83,sm83⟩:=gmem_of hg62
    refine RN.cp (sm83 _ (sub_ap 1))<|RN.ct (Hp:=[]) (Tp:=[]) [] [] (cells_ap m83 (⟨iniL S S.nb,[],0⟩) 1000000 Tm83 _ Mm83 (λ x hx=>(sub_ap 1) x (Sm83 x hx))) ?_
    rintro _ q84 rfl
    refine RN.go 7 [] λ _=>RN.ct [] [1] (tickx_any (xs:=((List.replicate S.players.toNat dI)++[p4])) (n:=(S.players.toNat+1)) (cap:=c79) (A:=A78) 17 (hg62.weak (Nat.zero_le _)) (hs81.rowN (sub_ap 0) (by simp)) (by omega) (wrong17 (by rw [he61.pl];omega)) (by decide)) ?_
    rintro _ T85 ⟨hg86,rfl⟩
    refine RN.go 15 (ow 3 16) λ _=>RN.cp (wrong_17 (S:=S) (n:=(S.players.toNat+1)) (cap:=c79) (A:=A78) (xs:=((List.replicate S.players.toNat dI)++[p4])) (hs81.rowN (sub_ap 1) (by simp)) (by omega) (by omega) 0)<|RN.go 25 [] λ _=>RN.cp (gnow_g hg86 (sub_ap 0) (ini_eq hV he61).t0)<|RN.go 4 [] λ _=>?_
    obtain ⟨m87,Tm87,Mm87,Sm87,sm87⟩:=gmem_of hg86
    refine RN.cp (sm87 _ (sub_ap 0))<|RN.ct (Hp:=[]) (Tp:=[]) [] [] (cells_ap m87 (⟨iniL S S.nb,[],0⟩) 0 Tm87 _ Mm87 (λ x hx=>(sub_ap 0) x (Sm87 x hx))) ?_
    rintro _ q88 rfl
    refine RN.go 1 [] λ _=>RN.cp (sameI_b true q88 q84 ((iniL S S.nb).length) ((iniL S S.nb).length) ((iniL S S.nb).length) ((iniL S S.nb).length) ((iniL S S.nb).length) ((iniL S S.nb).length) (iniL S S.nb) (iniL S S.nb) _ (in_ap 0) (in_ap 1) (Nat.le_refl _) (Nat.le_refl _) (by omega) (decide_eq_true ⟨rfl,λ t ht=>rfl⟩))<|RN.go 2 [] λ _=>RN.cp (lives_in (ro_ap hE0))<|RN.go 4 [] λ _=>?_
    exact RN.ret [] [] [] ⟨rfl,rfl⟩
   ·refine RN.go 1 [] λ _=>?_
    by_cases hpe:S.players=1
    ·refine RN.goP 8 [.sl 1 ((S.players).toNat) true] [1=((1:Nat):Int) /\ (S.players).toNat=(S.players).toNat /\ 1 <= (S.players).toNat /\ (S.players).toNat <= (S.players).toNat /\ (S.players).toNat=1] λ _=>RN.go 2 [] λ _=>?_
     obtain ⟨m89,Tm89,Mm89,Sm89,sm89⟩:=gmem_of hg62
     refine RN.cp (sm89 _ (sub_ap 0))<|RN.ct (Hp:=[]) (Tp:=[]) [] [] (cells_ap m89 (⟨iniL S S.nb,[],0⟩) 1000000 Tm89 _ Mm89 (λ x hx=>(sub_ap 0) x (Sm89 x hx))) ?_
     rintro _ q90 rfl
     refine RN.go 7 [] λ _=>RN.ct [] [0] (tickx_any (xs:=([]:List Inp)) (n:=((S.players).toNat - 1)) (cap:=((S.players).toNat - 1)) (A:=(some ⟨(n63+0),0,none⟩)) 17 (hg62.weak (Nat.zero_le _)) (RowL.zn (by omega)) (by omega) (wrong17 (by rw [he61.pl];omega)) (by decide)) ?_
     rintro _ T91 ⟨hg92,rfl⟩
     refine RN.go 15 (ow 3 16) λ _=>RN.cp (wrong_17 (S:=S) (n:=((S.players).toNat - 1)) (cap:=((S.players).toNat - 1)) (A:=(some ⟨(n63+0),0,none⟩)) (xs:=([]:List Inp)) (RowL.zn (by omega)) (by omega) (by omega) 0)<|RN.go 25 [] λ _=>RN.cp (gnow_g hg92 (sub_ap 0) (ini_eq hV he61).t0)<|RN.go 4 [] λ _=>?_
     obtain ⟨m93,Tm93,Mm93,Sm93,sm93⟩:=gmem_of hg92
     refine RN.cp (sm93 _ (sub_ap 0))<|RN.ct (Hp:=[]) (Tp:=[]) [] [] (cells_ap m93 (⟨iniL S S.nb,[],0⟩) 0 Tm93 _ Mm93 (λ x hx=>(sub_ap 0) x (Sm93 x hx))) ?_
     rintro _ q94 rfl
     refine RN.go 1 [] λ _=>RN.cp (sameI_b true q94 q90 ((iniL S S.nb).length) ((iniL S S.nb).length) ((iniL S S.nb).length) ((iniL S S.nb).length) ((iniL S S.nb).length) ((iniL S S.nb).length) (iniL S S.nb) (iniL S S.nb) _ (in_ap 0) (in_ap 1) (Nat.le_refl _) (Nat.le_refl _) (by omega) (decide_eq_true ⟨rfl,λ t ht=>rfl⟩))<|RN.go 2 [] λ _=>RN.cp (lives_in (ro_ap hE0))<|RN.go 4 [] λ _=>?_
     exact RN.ret [] [] [] ⟨rfl,rfl⟩
    ·refine RN.goP 8 [.sl 1 ((S.players).toNat) false] [1=((1:Nat):Int) /\ (S.players).toNat=(S.players).toNat /\ 1 <= (S.players).toNat /\ (S.players).toNat <= (S.players).toNat /\ (S.players).toNat ≠ 1] λ _=>RN.go 2 [] λ _=>?_
     obtain ⟨m95,Tm95,Mm95,Sm95,sm95⟩:=gmem_of hg62
     refine RN.cp (sm95 _ (sub_ap 0))<|RN.ct (Hp:=[]) (Tp:=[]) [] [] (cells_ap m95 (⟨iniL S S.nb,[],0⟩) 1000000 Tm95 _ Mm95 (λ x hx=>(sub_ap 0) x (Sm95 x hx))) ?_
     rintro _ q96 rfl
     refine RN.go 7 [] λ _=>RN.ct [] [0] (tickx_any (xs:=((List.replicate S.players.toNat dI).drop 1)) (n:=((S.players).toNat - 1)) (cap:=((S.players).toNat - 1)) (A:=(some ⟨(n63+0),3,none⟩)) 17 (hg62.weak (Nat.zero_le _)) (.rows (n63+0) 1 S.players.toNat (List.replicate S.players.toNat dI) (0,0) ((S.players).toNat - 1) ((List.replicate S.players.toNat dI).drop 1) (in_ap 1) (by omega) (by simp) (λ k_ hk_=>by rw [List.getD_eq_getElem?_getD,List.getD_eq_getElem?_getD,List.getElem?_drop])) (by omega) (wrong17 (by rw [he61.pl];omega)) (by decide)) ?_
     rintro _ T97 ⟨hg98,rfl⟩
     refine RN.go 15 (ow 3 16) λ _=>RN.cp (wrong_17 (S:=S) (n:=((S.players).toNat - 1)) (cap:=((S.players).toNat - 1)) (A:=(some ⟨(n63+0),3,none⟩)) (xs:=((List.replicate S.players.toNat dI).drop 1)) (.rows (n63+0) 1 S.players.toNat (List.replicate S.players.toNat dI) (0,0) ((S.players).toNat - 1) ((List.replicate S.players.toNat dI).drop 1) (in_ap 1) (by omega) (by simp) (λ k_ hk_=>by rw [List.getD_eq_getElem?_getD,List.getD_eq_getElem?_getD,List.getElem?_drop])) (by omega) (by omega) 0) ?_
     refine RN.go 25 [] λ _=>RN.cp (gnow_g hg98 (sub_ap 0) (ini_eq hV he61).t0)<|RN.go 4 [] λ _=>?_
     obtain ⟨m99,Tm99,Mm99,Sm99,sm99⟩:=gmem_of hg98
     refine RN.cp (sm99 _ (sub_ap 0))<|RN.ct (Hp:=[]) (Tp:=[]) [] [] (cells_ap m99 (⟨iniL S S.nb,[],0⟩) 0 Tm99 _ Mm99 (λ x hx=>(sub_ap 0) x (Sm99 x hx))) ?_
     rintro _ q100 rfl
     refine RN.go 1 [] λ _=>RN.cp (sameI_b true q100 q96 ((iniL S S.nb).length) ((iniL S S.nb).length) ((iniL S S.nb).length) ((iniL S S.nb).length) ((iniL S S.nb).length) ((iniL S S.nb).length) (iniL S S.nb) (iniL S S.nb) _ (in_ap 0) (in_ap 1) (Nat.le_refl _) (Nat.le_refl _) (by omega) (decide_eq_true ⟨rfl,λ t ht=>rfl⟩))<|RN.go 2 [] λ _=>RN.cp (lives_in (ro_ap hE0))<|RN.go 4 [] λ _=>?_
     exact RN.ret [] [] [] ⟨rfl,rfl⟩
end Go.Proofs.YtgibcbhfmomfbaaGreatDoor
