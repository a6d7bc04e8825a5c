import Derived.Test.YtkhifpbokgabbaaGreatDoorW25
import Derived.Test.YtkhifpbokgabbaaGreatDoorW22
set_option maxHeartbeats 4000000
set_option maxRecDepth 100000
set_option linter.unusedSimpArgs false
set_option linter.unusedVariables false
namespace Go.Proofs.YtkhifpbokgabbaaGreatDoor
open Go.RowKit
theorem NdH.blk {k n:Int} {s:ByteArray} {A:Option Addr} {c:Nat} {l:List Nd} {T U:HL} (hs:SlIs ndE 70 l A c T) (hz:zeroOff A) (hk:∀ x ∈ l,NdH x U):NdH (.mk k n s A c l) (T++U):=by
 intro F hF
 by_cases h:l=[]
 ·subst h;exact .leaf _ _ _ _ _
 ·obtain ⟨b,rest,rfl,rfl,hc⟩:=hs.open0 hz (by decide) (List.length_pos_iff.2 h)
  exact .node k n s b c c l rest (hF _ (List.mem_append_left _ (List.mem_singleton.2 rfl))) hc λ x hx=>hk x hx F λ y hy=>hF y (by simp [hy])
theorem NdH.left {x:Nd} {T X:HL} (h:NdH x T):NdH x (T++X):=λ F hF=>h F λ x hx=>hF x (List.mem_append_left _ hx)
theorem NdH.right {x:Nd} {T X:HL} (h:NdH x X):NdH x (T++X):=λ F hF=>h F λ x hx=>hF x (List.mem_append_right _ hx)
theorem blk_step (g c i n:Nat) (A:Option Addr) (d most:Int) (hd:-10 <= d /\ d <= 1000) (hm:0 <= most /\ most <= 3) (hi:i <= n) (hn:n <= 60) (F:HL) (hG:GIn F A n) (ihs:∀ (i:Nat) (F:HL),i <= n -> GIn F A n -> GenS 67 #[vP g 0,vI d] (Ht (2 * d.toNat+5)) g c n A i F):Sp Tryz.prog 42 #[vP g 0,vI d,vI most] [(g,.lit [.slice A n c,vI (i:Int)] 113 (0,0))] F (λ u H'=>∃ x:Nd × Nat × HL,H'=ap [(g,.lit [.slice A n c,vI (x.2.1:Int)] 113 (0,0))] [x.2.2] /\ (u=ndV x.1 /\ x.2.1 <= n /\ Ht (2 * d.toNat+6) x.1 /\ NdH x.1 x.2.2)):=by
 refine Sp.run Tryz.func42 rfl mn (A:=[(g,.lit [.slice A n c,vI (i:Int)] 113 (0,0))]) (Ts:=[]) rfl λ w0=>?_
 refine RN.goP 18 [.own 0,.own 0,.own 0,.own 0,.nw] [I64 (most+1)] λ n1=>RN.ct [2] [] (pick_any g c i n A (most+1) (by omega) (by omega) hn _ hG.up) ?_
 rintro _ ⟨k2,i3⟩ ⟨rfl,hk4,hi5⟩
 dsimp only at hk4 hi5
 refine RN.go 4 [] λ _=>RN.nt<|RN.nt<|RN.loop (σ:=Nat × Int × Nat × List Nd × Option Addr × Nat × HL × HL) (λ ⟨j,r,i2,l_,B_,d_,V_,U_⟩=>⟨[(0,vP g 0),(1,vI d),(6,vP (n1+0) 0),(7,vP (n1+1) 0),(8,vI r)],[(g,.lit [.slice A n c,vI (i2:Int)] 113 (0,0)),((n1+1),.lit [vI 7,vI 0,.string ⟨#[]⟩,.slice B_ j d_] 70 (0,0)),((n1+0),.lit [vI 0,vI 0,.string ⟨#[]⟩,.slice none 0 0] 70 (0,0))],[V_,U_],(0 <= r /\ (j:Int)+r <= 3) /\ i2 <= n /\ l_.length=j /\ (∀ x ∈ l_,Ht (2 * d.toNat+5) x /\ NdH x U_) /\ SlIs ndE 70 l_ B_ d_ V_ /\ zeroOff B_,r.toNat⟩) (0,(k2:Int),i3,[],none,0,[],[]) [0,1,2] [0,1] (⟨⟨by omega,by omega⟩,by omega,rfl,λ x hx=>by simp at hx,SlIs.nil _ _,trivial⟩) ?_
 rintro ⟨j,r,i2,l_,B_,d_,V_,U_⟩ ⟨hr_,hi2_,hbl_,hk_,hs_,hz_⟩ mt7
 refine RN.go 7 [] λ _=>RN.em (r > 0) 15 (λ h8=>?_) λ h8=>?_
 ·refine RN.go 5 [] λ _=>RN.draw [4,6,8] []<|RD.go [] [0,2,3] []<|RD.two 1 4 ?_ ?_
  ·refine RDO.ev [] [.own 1] λ _=>RD.one 4 (RDO.ct [] [0] [] (ihs i2 _ (by omega) hG.up) ?_)
   rintro _ ⟨x9,i10,T11⟩ ⟨rfl,hi12,hg13,hT14⟩
   dsimp only at hi12 hg13 hT14
   refine RD.one 5 (RDO.ev [] [] λ n15=>?_)
   refine RD.one 6 (RDO.app [] ndEOk l_ [x9] 1 0 hbl_.symm hs_ (by rw [hbl_];show j+1 <= 100000000;omega) ?_)
   rintro A16 c17 T18 ⟨hs19,hz20⟩
   refine RD.go [] [7] []<|RD.one 8 (RDO.ev [] [.own 2] λ _=>?_)
   refine RD.fin<|RN.goP 7 [.nw] [I64 (r - 1)] λ _=>?_
   have hz2:=hz20 hz_
   refine RN.pt [2,1,0]<|RN.jt ?_
   refine mt7 (j+1,r - 1,i10,l_++[x9],A16,c17,T18,U_++T11) [1,2,3] [1,0] ?_
   try dsimp only
   refine ⟨⟨⟨by omega,by omega⟩,by omega,by rw [List.length_append,hbl_];rfl,?_,hs19,hz2⟩,by omega⟩
   intro y hy
   rcases List.mem_append.1 hy with h | h
   ·exact ⟨(hk_ y h).1,(hk_ y h).2.left⟩
   ·obtain rfl:y=x9:=by simpa using h
    exact ⟨hg13,hT14.right⟩
  ·refine RDO.ct [] [0] [] (ihs i2 _ (by omega) hG.up) ?_
   rintro _ ⟨x21,i22,T23⟩ ⟨rfl,hi24,hg25,hT26⟩
   dsimp only at hi24 hg25 hT26
   refine RD.two 1 5 ?_ ?_
   ·refine RDO.ev [] [.own 1] λ _=>RD.one 5 (RDO.ev [] [] λ n27=>?_)
    refine RD.one 6 (RDO.app [] ndEOk l_ [x21] 1 0 hbl_.symm hs_ (by rw [hbl_];show j+1 <= 100000000;omega) ?_)
    rintro A28 c29 T30 ⟨hs31,hz32⟩
    refine RD.go [] [7] []<|RD.one 8 (RDO.ev [] [.own 2] λ _=>?_)
    refine RD.fin<|RN.goP 7 [.nw] [I64 (r - 1)] λ _=>?_
    have hz2:=hz32 hz_
    refine RN.pt [2,1,0]<|RN.jt ?_
    refine mt7 (j+1,r - 1,i22,l_++[x21],A28,c29,T30,U_++T23) [1,2,3] [1,0] ?_
    try dsimp only
    refine ⟨⟨⟨by omega,by omega⟩,by omega,by rw [List.length_append,hbl_];rfl,?_,hs31,hz2⟩,by omega⟩
    intro y hy
    rcases List.mem_append.1 hy with h | h
    ·exact ⟨(hk_ y h).1,(hk_ y h).2.left⟩
    ·obtain rfl:y=x21:=by simpa using h
     exact ⟨hg25,hT26.right⟩
   ·refine RDO.ev [] [] λ n33=>RD.one 1 (RDO.ev [] [.own 2] λ _=>?_)
    refine RD.one 6 (RDO.app [] ndEOk l_ [x21] 1 0 hbl_.symm hs_ (by rw [hbl_];show j+1 <= 100000000;omega) ?_)
    rintro A34 c35 T36 ⟨hs37,hz38⟩
    refine RD.go [] [7] []<|RD.one 8 (RDO.ev [] [.own 2] λ _=>?_)
    refine RD.fin<|RN.goP 7 [.nw] [I64 (r - 1)] λ _=>?_
    have hz2:=hz38 hz_
    refine RN.pt [2,1,0]<|RN.jt ?_
    refine mt7 (j+1,r - 1,i22,l_++[x21],A34,c35,T36,U_++T23) [1,2,3] [1,0] ?_
    try dsimp only
    refine ⟨⟨⟨by omega,by omega⟩,by omega,by rw [List.length_append,hbl_];rfl,?_,hs37,hz2⟩,by omega⟩
    intro y hy
    rcases List.mem_append.1 hy with h | h
    ·exact ⟨(hk_ y h).1,(hk_ y h).2.left⟩
    ·obtain rfl:y=x21:=by simpa using h
     exact ⟨hg25,hT26.right⟩
 ·refine RN.go 12 [.own 1,.own 1,.own 1,.own 1,.own 2,.own 2,.own 2,.own 2] λ _=>RN.ret [.own 2,.own 2,.own 2,.own 2] [0] [0,1] (v:=.agg #[vI 7,vI 0,.string ⟨#[]⟩,.slice B_ j d_]) (H':=(ap [(g,.lit [.slice A n c,vI (i2:Int)] 113 (0,0))] [V_,U_])) ?_
  subst hbl_
  exact ⟨(.mk 7 0 ⟨#[]⟩ B_ d_ l_,i2,V_++U_),(by simp [ap]),rfl,(by dsimp only;omega),(.mk (2 * d.toNat+5) _ _ _ _ _ _ (by omega) λ x hx=>(hk_ x hx).1),.blk hs_ hz_ λ x hx=>(hk_ x hx).2⟩
theorem stm_any {g c n:Nat} {A:Option Addr} (hn:n <= 60):∀ (m:Nat) (d:Int),d <= m -> 0 <= d -> m <= 1000 -> ∀ (i:Nat) (F:HL),i <= n -> GIn F A n -> GenS 67 #[vP g 0,vI d] (Ht (2 * d.toNat+5)) g c n A i F
 | 0,d,h,h2,h3,i,F,hi,hG=>stm_step g c i n A d (by omega) hi hn F hG λ h=>absurd h (by omega)
 | m+1,d,h,h2,h3,i,F,hi,hG=>stm_step g c i n A d (by omega) hi hn F hG λ h' i F hi hG=>blk_step g c i n A (d - 1) 2 (by omega) (by omega) hi hn F hG λ i F hi hG=>stm_any hn m (d - 1) (by omega) (by omega) (by omega) i F hi hG
theorem blk_any {g c n:Nat} {A:Option Addr} (hn:n <= 60) (d most:Int) (hd:0 <= d /\ d <= 1000) (hm:0 <= most /\ most <= 3) (i:Nat) (F:HL) (hi:i <= n) (hG:GIn F A n):GenS 42 #[vP g 0,vI d,vI most] (Ht (2 * d.toNat+6)) g c n A i F :=
 blk_step g c i n A d most (by omega) hm hi hn F hG λ i F hi hG=>stm_any hn 1000 d (by omega) hd.1 (by omega) i F hi hG
theorem src_arg {P:Program} {inf:TypeInfo} {z:Value} (ok:EncOk intE P 3 inf z) {F:HL} {q o n:Nat} {xs:List Int} (hl:ArgL F (some ⟨q,o,none⟩) n xs) {m c:Nat} (hm:m <= n) {tx e':TypeId} (hk:P.underlying tx=some (.slice e')) (X:HL) (w:World) (hR:Rel (X++F) w):Src P inf.size tx (.slice (some ⟨q,o,none⟩) m c) m (cellsE intE (xs.take m)) w:=by
 have hsz:inf.size=1:=ok.size
 have hlen:(cellsE intE (xs.take m)).length=m:=by rw [cellsE_length,List.length_take,hl.len,Nat.min_eq_left hm];exact Nat.mul_one m
 have hget:∀ (l:List Int) (j:Nat),(cellsE intE l)[j]?=(l[j]?).map vI:=by
  intro l
  induction l with
  | nil=>intro j;rfl
  | cons x l ih =>
   intro j
   cases j with
   | zero=>rfl
   | succ j=>exact ih j
 refine Src.ofSlice w hk _ _ _ _ (by rw [hlen,hsz,Nat.mul_one]) ?_ ?_
 ·intro j u hj
  have hjm:j < m:=by rw [<- hlen];exact (List.getElem?_eq_some_iff.1 hj).1
  obtain ⟨q',o',N,g,ty,fz,h1,h2,h3,h4,_⟩:=hl.at (k:=j) (by omega)
  obtain ⟨rfl,rfl⟩:q=q' /\ o=o':=by simp only [Option.some.injEq,Addr.mk.injEq,and_true] at h1;exact h1
  rw [Addr.add_lit]
  have hb:=hR.holds _ (List.mem_append_right X h2)
  rw [cell_rows (i:=o+j) (k:=0) hb rfl rfl (by show o+j=(o+j) * 1+0;omega) h3 (by decide),h4]
  rw [hget,List.getElem?_take,if_pos hjm] at hj
  have hx:j < xs.length:=by rw [hl.len];omega
  rw [List.getElem?_eq_getElem hx] at hj
  rw [List.getD_eq_getElem?_getD,List.getElem?_eq_getElem hx]
  exact hj
 ·intro u hu
  obtain ⟨j,hj,rfl⟩:=List.mem_iff_getElem.1 hu
  have:=hget (xs.take m) j
  rw [List.getElem?_eq_getElem hj] at this
  cases h:(xs.take m)[j]? with
  | none=>rw [h] at this;cases this
  | some x=>rw [h] at this;simp only [Option.map_some,Option.some.injEq] at this;rw [this];rfl
theorem src_any {P:Program} {inf:TypeInfo} {z:Value} (ok:EncOk intE P 3 inf z) {F:HL} {A:Option Addr} {n:Nat} {xs:List Int} (hl:ArgL F A n xs) {m c:Nat} (hm:m <= n) {tx e':TypeId} (hk:P.underlying tx=some (.slice e')) (X:HL) (w:World) (hR:Rel (X++F) w):Src P inf.size tx (.slice A m c) m (cellsE intE (xs.take m)) w:=by
 rcases Nat.eq_zero_or_pos m with rfl | hp
 ·cases A with
  | none=>exact Src.ofNil w hk c
  | some a=>exact Src.ofSlice w hk a 0 c [] (by simp) (λ j u h=>by simp at h) (λ u h=>by simp at h)
 ·cases hl with
  | zero=>omega
  | cells q o N g ty fz xs hq ho hx hb=>exact src_arg ok (.cells q o N g ty fz xs hq ho hx hb) hm hk X w hR
theorem ints_any (A:Option Addr) (n cap:Nat) (xs:List Int) (F:HL) (hl:ArgL F A n xs) (hn:n <= 9223372036854775807) (hc:n <= cap) (m:Nat) (hm:m=min n 60):Sp Tryz.prog 40 #[.slice A n cap,vI 60] [] F (λ u H'=>∃ x:Option Addr × Nat × HL,H'=ap [] [x.2.2] /\ (u=.slice x.1 (0+(xs.take m).length) x.2.1 /\ SlIs intE 3 (xs.take m) x.1 x.2.1 x.2.2 /\ zeroOff x.1)):=by
 have hml:(xs.take m).length=m:=by rw [List.length_take,hl.len];omega
 have hm2:(if 60 < (n:Int) then 60 else (n:Int))=(m:Int):=by subst hm;split <;> omega
 refine Sp.run Tryz.func40 rfl mn (A:=[]) (Ts:=[]) rfl λ w0=>?_
 refine RN.goP 19 [.sl0 m] [(if 60 < (n:Int) then 60 else (n:Int))=((m:Nat):Int) /\ m <= cap] λ _=>RN.nt<|RN.appS (m:=m) (tx:=22) intEOk ([]:List Int) (xs.take m) 0 hml.symm rfl (SlIs.nil _ _) (by rw [hml];show 0+m <= 100000000;omega) (λ e_ he X w hR=>by rw [hml];exact src_any intEOk hl (m:=m) (c:=cap) (by omega) he X w hR) ?_
 rintro A1 c2 T3 ⟨hs4,hz5⟩
 refine RN.go 3 [] λ _=>RN.ret [] [] [0] (v:=.slice A1 (0+(xs.take m).length) c2) (H':=(ap [] [T3])) ?_
 exact ⟨(A1,c2,T3),rfl,rfl,hs4,hz5 trivial⟩
theorem GIn.of {ys:List Int} {A:Option Addr} {c:Nat} {T:HL} (hs:SlIs intE 3 ys A c T) (hz:zeroOff A) (hb:∀ k,k < ys.length -> i64r (ys.getD k 0)) {F:HL} (hF:∀ x ∈ T,x ∈ F):GIn F A ys.length:=by
 by_cases h:ys=[]
 ·subst h;exact .zero _
 ·obtain ⟨b,rest,rfl,rfl,hc⟩:=hs.open0 hz (by decide) (List.length_pos_iff.2 h)
  refine .cells b c ys.length (ys++rest) (hF _ (List.mem_singleton.2 rfl)) hc λ k hk=>?_
  rw [List.getD_eq_getElem?_getD,List.getElem?_append_left hk,<- List.getD_eq_getElem?_getD]
  exact hb k hk
theorem ArgL.take {F:HL} {A:Option Addr} {n:Nat} {xs:List Int} (hl:ArgL F A n xs) {m:Nat} (hm:m <= n):∀ k,k < (xs.take m).length -> i64r ((xs.take m).getD k 0):=λ k hk=>by
 rw [List.length_take] at hk
 obtain ⟨_,_,_,_,_,_,_,_,_,_,h⟩:=hl.at (k:=k) (by omega)
 rw [List.getD_eq_getElem?_getD,List.getElem?_take,if_pos (by omega),<- List.getD_eq_getElem?_getD]
 exact h
theorem prog_any (A:Option Addr) (n cap m:Nat) (xs:List Int) (F:HL) (hm:(xs.take m).length <= 60) (hb:∀ k,k < (xs.take m).length -> i64r ((xs.take m).getD k 0)) (hI:∀ X,Sp Tryz.prog 40 #[.slice A n cap,vI 60] [] (X++F) (λ u H'=>∃ x:Option Addr × Nat × HL,H'=ap [] [x.2.2] /\ (u=.slice x.1 (0+(xs.take m).length) x.2.1 /\ SlIs intE 3 (xs.take m) x.1 x.2.1 x.2.2 /\ zeroOff x.1))):Sp Tryz.prog 15 #[.slice A n cap] [] F (λ u H'=>∃ x:(Nd × Nd × Nd) × HL,H'=ap [] [x.2] /\ (u=.agg #[vI x.1.1.k,vI x.1.1.n,.string x.1.1.s,.slice x.1.1.A x.1.1.kids.length x.1.1.c,vI x.1.2.1.k,vI x.1.2.1.n,.string x.1.2.1.s,.slice x.1.2.1.A x.1.2.1.kids.length x.1.2.1.c,vI x.1.2.2.k,vI x.1.2.2.n,.string x.1.2.2.s,.slice x.1.2.2.A x.1.2.2.kids.length x.1.2.2.c] /\ (Ht 10 x.1.1 /\ NdH x.1.1 x.2) /\ (Ht 10 x.1.2.1 /\ NdH x.1.2.1 x.2) /\ (Ht 10 x.1.2.2 /\ NdH x.1.2.2 x.2))):=by
 refine Sp.run Tryz.func15 rfl mn (A:=[]) (Ts:=[]) rfl λ w0=>?_
 refine RN.go 8 [] λ n1=>RN.ct (Hp:=[]) (Tp:=[]) [] [] (hI _) ?_
 rintro _ ⟨A2,c3,T4⟩ ⟨rfl,hs5,hz6⟩
 dsimp only at hs5 hz6
 have hn0:(0+(xs.take m).length)=(xs.take m).length:=Nat.zero_add _
 have ghn:(0+(xs.take m).length) <= 60:=by omega
 refine RN.go 17 [] λ n7=>RN.rounds 3<|RN.go 15 [] λ _=>RN.ct [1] [] (pick_any (n7+0) c3 0 (0+(xs.take m).length) A2 4 (by omega) (by omega) ghn _ (hn0.symm ▸ GIn.of hs5 hz6 hb (sub_ap 0))) ?_
 rintro _ ⟨k8,i9⟩ ⟨rfl,hk10,hi11⟩
 dsimp only at hk10 hi11
 refine RN.go 3 [] λ _=>RN.em ((k8:Int) > 0) 16 (λ h12=>?_) λ h12=>?_
 ·refine RN.go 4 [] λ _=>RN.ct [0] [] (blk_any (g:=(n7+0)) (c:=c3) ghn 2 3 (by omega) (by omega) i9 _ (by omega) (hn0.symm ▸ GIn.of hs5 hz6 hb (sub_ap 0))) ?_
  rintro _ ⟨x13,i14,T15⟩ ⟨rfl,hi16,hg17,hT18⟩
  dsimp only at hi16 hg17 hT18
  refine RN.go 27 [.own 1,.own 1,.own 1,.own 1] λ _=>RN.ct [0] [] (pick_any (n7+0) c3 i14 (0+(xs.take m).length) A2 4 (by omega) (by omega) ghn _ (hn0.symm ▸ GIn.of hs5 hz6 hb (sub_ap 1))) ?_
  rintro _ ⟨k19,i20⟩ ⟨rfl,hk21,hi22⟩
  dsimp only at hk21 hi22
  refine RN.go 3 [] λ _=>RN.em ((k19:Int) > 0) 16 (λ h23=>?_) λ h23=>?_
  ·refine RN.go 4 [] λ _=>RN.ct [0] [] (blk_any (g:=(n7+0)) (c:=c3) ghn 2 3 (by omega) (by omega) i20 _ (by omega) (hn0.symm ▸ GIn.of hs5 hz6 hb (sub_ap 1))) ?_
   rintro _ ⟨x24,i25,T26⟩ ⟨rfl,hi27,hg28,hT29⟩
   dsimp only at hi27 hg28 hT29
   refine RN.go 27 [.own 1,.own 1,.own 1,.own 1] λ _=>RN.ct [0] [] (pick_any (n7+0) c3 i25 (0+(xs.take m).length) A2 4 (by omega) (by omega) ghn _ (hn0.symm ▸ GIn.of hs5 hz6 hb (sub_ap 2))) ?_
   rintro _ ⟨k30,i31⟩ ⟨rfl,hk32,hi33⟩
   dsimp only at hk32 hi33
   refine RN.go 3 [] λ _=>RN.em ((k30:Int) > 0) 16 (λ h34=>?_) λ h34=>?_
   ·refine RN.go 4 [] λ _=>RN.ct [0] [] (blk_any (g:=(n7+0)) (c:=c3) ghn 2 3 (by omega) (by omega) i31 _ (by omega) (hn0.symm ▸ GIn.of hs5 hz6 hb (sub_ap 2))) ?_
    rintro _ ⟨x35,i36,T37⟩ ⟨rfl,hi38,hg39,hT40⟩
    dsimp only at hi38 hg39 hT40
    refine RN.go 31 (ow 1 16++ow 2 12) λ _=>RN.ret (ow 2 12) [] [0,1,2,3] (v:=.agg #[vI x13.k,vI x13.n,.string x13.s,.slice x13.A x13.kids.length x13.c,vI x24.k,vI x24.n,.string x24.s,.slice x24.A x24.kids.length x24.c,vI x35.k,vI x35.n,.string x35.s,.slice x35.A x35.kids.length x35.c]) (H':=(ap [] [T37,T26,T15,T4])) ?_
    exact ⟨((x13,x24,x35),T37++T26++T15++T4),(by simp [ap]),rfl,⟨hg17,λ F hF=>hT18 F λ y hy=>hF y (by simp [hy])⟩,⟨hg28,λ F hF=>hT29 F λ y hy=>hF y (by simp [hy])⟩,⟨hg39,λ F hF=>hT40 F λ y hy=>hF y (by simp [hy])⟩⟩
   ·refine RN.go 29 (ow 1 12++ow 2 12) λ _=>RN.ret (ow 2 12) [] [0,1,2] (v:=.agg #[vI x13.k,vI x13.n,.string x13.s,.slice x13.A x13.kids.length x13.c,vI x24.k,vI x24.n,.string x24.s,.slice x24.A x24.kids.length x24.c,vI 0,vI 0,.string ⟨#[]⟩,.slice none 0 0]) (H':=(ap [] [T26,T15,T4])) ?_
    exact ⟨((x13,x24,dN),T26++T15++T4),(by simp [ap]),rfl,⟨hg17,λ F hF=>hT18 F λ y hy=>hF y (by simp [hy])⟩,⟨hg28,λ F hF=>hT29 F λ y hy=>hF y (by simp [hy])⟩,⟨.zero,.zero⟩⟩
  ·refine RN.go 25 [] λ _=>RN.ct [0] [] (pick_any (n7+0) c3 i20 (0+(xs.take m).length) A2 4 (by omega) (by omega) ghn _ (hn0.symm ▸ GIn.of hs5 hz6 hb (sub_ap 1))) ?_
   rintro _ ⟨k41,i42⟩ ⟨rfl,hk43,hi44⟩
   dsimp only at hk43 hi44
   refine RN.go 3 [] λ _=>RN.em ((k41:Int) > 0) 16 (λ h45=>?_) λ h45=>?_
   ·refine RN.go 4 [] λ _=>RN.ct [0] [] (blk_any (g:=(n7+0)) (c:=c3) ghn 2 3 (by omega) (by omega) i42 _ (by omega) (hn0.symm ▸ GIn.of hs5 hz6 hb (sub_ap 1))) ?_
    rintro _ ⟨x46,i47,T48⟩ ⟨rfl,hi49,hg50,hT51⟩
    dsimp only at hi49 hg50 hT51
    refine RN.go 31 (ow 1 16++ow 2 12) λ _=>RN.ret (ow 2 12) [] [0,1,2] (v:=.agg #[vI x13.k,vI x13.n,.string x13.s,.slice x13.A x13.kids.length x13.c,vI 0,vI 0,.string ⟨#[]⟩,.slice none 0 0,vI x46.k,vI x46.n,.string x46.s,.slice x46.A x46.kids.length x46.c]) (H':=(ap [] [T48,T15,T4])) ?_
    exact ⟨((x13,dN,x46),T48++T15++T4),(by simp [ap]),rfl,⟨hg17,λ F hF=>hT18 F λ y hy=>hF y (by simp [hy])⟩,⟨.zero,.zero⟩,⟨hg50,λ F hF=>hT51 F λ y hy=>hF y (by simp [hy])⟩⟩
   ·refine RN.go 29 (ow 1 12++ow 2 12) λ _=>RN.ret (ow 2 12) [] [0,1] (v:=.agg #[vI x13.k,vI x13.n,.string x13.s,.slice x13.A x13.kids.length x13.c,vI 0,vI 0,.string ⟨#[]⟩,.slice none 0 0,vI 0,vI 0,.string ⟨#[]⟩,.slice none 0 0]) (H':=(ap [] [T15,T4])) ?_
    exact ⟨((x13,dN,dN),T15++T4),(by simp [ap]),rfl,⟨hg17,λ F hF=>hT18 F λ y hy=>hF y (by simp [hy])⟩,⟨.zero,.zero⟩,⟨.zero,.zero⟩⟩
 ·refine RN.go 25 [] λ _=>RN.ct [0] [] (pick_any (n7+0) c3 i9 (0+(xs.take m).length) A2 4 (by omega) (by omega) ghn _ (hn0.symm ▸ GIn.of hs5 hz6 hb (sub_ap 0))) ?_
  rintro _ ⟨k52,i53⟩ ⟨rfl,hk54,hi55⟩
  dsimp only at hk54 hi55
  refine RN.go 3 [] λ _=>RN.em ((k52:Int) > 0) 16 (λ h56=>?_) λ h56=>?_
  ·refine RN.go 4 [] λ _=>RN.ct [0] [] (blk_any (g:=(n7+0)) (c:=c3) ghn 2 3 (by omega) (by omega) i53 _ (by omega) (hn0.symm ▸ GIn.of hs5 hz6 hb (sub_ap 0))) ?_
   rintro _ ⟨x57,i58,T59⟩ ⟨rfl,hi60,hg61,hT62⟩
   dsimp only at hi60 hg61 hT62
   refine RN.go 27 [.own 1,.own 1,.own 1,.own 1] λ _=>RN.ct [0] [] (pick_any (n7+0) c3 i58 (0+(xs.take m).length) A2 4 (by omega) (by omega) ghn _ (hn0.symm ▸ GIn.of hs5 hz6 hb (sub_ap 1))) ?_
   rintro _ ⟨k63,i64⟩ ⟨rfl,hk65,hi66⟩
   dsimp only at hk65 hi66
   refine RN.go 3 [] λ _=>RN.em ((k63:Int) > 0) 16 (λ h67=>?_) λ h67=>?_
   ·refine RN.go 4 [] λ _=>RN.ct [0] [] (blk_any (g:=(n7+0)) (c:=c3) ghn 2 3 (by omega) (by omega) i64 _ (by omega) (hn0.symm ▸ GIn.of hs5 hz6 hb (sub_ap 1))) ?_
    rintro _ ⟨x68,i69,T70⟩ ⟨rfl,hi71,hg72,hT73⟩
    dsimp only at hi71 hg72 hT73
    refine RN.go 31 (ow 1 16++ow 2 12) λ _=>RN.ret (ow 2 12) [] [0,1,2] (v:=.agg #[vI 0,vI 0,.string ⟨#[]⟩,.slice none 0 0,vI x57.k,vI x57.n,.string x57.s,.slice x57.A x57.kids.length x57.c,vI x68.k,vI x68.n,.string x68.s,.slice x68.A x68.kids.length x68.c]) (H':=(ap [] [T70,T59,T4])) ?_
    exact ⟨((dN,x57,x68),T70++T59++T4),(by simp [ap]),rfl,⟨.zero,.zero⟩,⟨hg61,λ F hF=>hT62 F λ y hy=>hF y (by simp [hy])⟩,⟨hg72,λ F hF=>hT73 F λ y hy=>hF y (by simp [hy])⟩⟩
   ·refine RN.go 29 (ow 1 12++ow 2 12) λ _=>RN.ret (ow 2 12) [] [0,1] (v:=.agg #[vI 0,vI 0,.string ⟨#[]⟩,.slice none 0 0,vI x57.k,vI x57.n,.string x57.s,.slice x57.A x57.kids.length x57.c,vI 0,vI 0,.string ⟨#[]⟩,.slice none 0 0]) (H':=(ap [] [T59,T4])) ?_
    exact ⟨((dN,x57,dN),T59++T4),(by simp [ap]),rfl,⟨.zero,.zero⟩,⟨hg61,λ F hF=>hT62 F λ y hy=>hF y (by simp [hy])⟩,⟨.zero,.zero⟩⟩
  ·refine RN.go 25 [] λ _=>RN.ct [0] [] (pick_any (n7+0) c3 i53 (0+(xs.take m).length) A2 4 (by omega) (by omega) ghn _ (hn0.symm ▸ GIn.of hs5 hz6 hb (sub_ap 0))) ?_
   rintro _ ⟨k74,i75⟩ ⟨rfl,hk76,hi77⟩
   dsimp only at hk76 hi77
   refine RN.go 3 [] λ _=>RN.em ((k74:Int) > 0) 16 (λ h78=>?_) λ h78=>?_
   ·refine RN.go 4 [] λ _=>RN.ct [0] [] (blk_any (g:=(n7+0)) (c:=c3) ghn 2 3 (by omega) (by omega) i75 _ (by omega) (hn0.symm ▸ GIn.of hs5 hz6 hb (sub_ap 0))) ?_
    rintro _ ⟨x79,i80,T81⟩ ⟨rfl,hi82,hg83,hT84⟩
    dsimp only at hi82 hg83 hT84
    refine RN.go 31 (ow 1 16++ow 2 12) λ _=>RN.ret (ow 2 12) [] [0,1] (v:=.agg #[vI 0,vI 0,.string ⟨#[]⟩,.slice none 0 0,vI 0,vI 0,.string ⟨#[]⟩,.slice none 0 0,vI x79.k,vI x79.n,.string x79.s,.slice x79.A x79.kids.length x79.c]) (H':=(ap [] [T81,T4])) ?_
    exact ⟨((dN,dN,x79),T81++T4),(by simp [ap]),rfl,⟨.zero,.zero⟩,⟨.zero,.zero⟩,⟨hg83,λ F hF=>hT84 F λ y hy=>hF y (by simp [hy])⟩⟩
   ·refine RN.go 29 (ow 1 12++ow 2 12) λ _=>RN.ret (ow 2 12) [] [0] (v:=.agg #[vI 0,vI 0,.string ⟨#[]⟩,.slice none 0 0,vI 0,vI 0,.string ⟨#[]⟩,.slice none 0 0,vI 0,vI 0,.string ⟨#[]⟩,.slice none 0 0]) (H':=(ap [] [T4])) ?_
    exact ⟨((dN,dN,dN),T4),(by simp [ap]),rfl,⟨.zero,.zero⟩,⟨.zero,.zero⟩,⟨.zero,.zero⟩⟩
def AllInt (kv:List (ByteArray × Value)):Prop:=∀ x ∈ kv,∃ z,x.2=vI z
def iget (kv:List (ByteArray × Value)) (k:ByteArray):Int:=match sget kv k with
 | some (.int .i64 z)=>z
 | _=>0
theorem sget_int {k:ByteArray}:∀ {kv:List (ByteArray × Value)},AllInt kv -> sget kv k=none \/ ∃ z,sget kv k=some (vI z)
 | [],_=>.inl rfl
 | (k',v) :: l,h=>by
  rw [sget]
  split
  ·obtain ⟨z,hz⟩:=h (k',v) (by simp)
   exact .inr ⟨z,by simp only at hz;rw [hz]⟩
  ·exact sget_int λ x hx=>h x (by simp [hx])
theorem lk_int {kv:List (ByteArray × Value)} (h:AllInt kv) (k:ByteArray):lkV kv k false (vI 0)=vI (iget kv k):=by
 show (sget kv k).getD (vI 0)=_
 unfold iget
 rcases sget_int (k:=k) h with e | ⟨z,e⟩ <;> rw [e] <;> rfl
theorem lk_int2 {kv:List (ByteArray × Value)} (h:AllInt kv) (k:ByteArray):lkV kv k true (vI 0)=.tuple #[vI (iget kv k),.bool (sget kv k).isSome]:=by
 show Value.tuple #[(sget kv k).getD (vI 0),.bool (sget kv k).isSome]=_
 unfold iget
 rcases sget_int (k:=k) h with e | ⟨z,e⟩ <;> rw [e] <;> rfl
theorem AllInt.put {kv:List (ByteArray × Value)} (h:AllInt kv) (k:ByteArray) (z:Int):AllInt (sput kv k (vI z)):=by
 induction kv with
 | nil=>intro x hx;simp only [sput,List.mem_singleton] at hx;subst hx;exact ⟨z,rfl⟩
 | cons y l ih =>
  obtain ⟨k',v⟩:=y
  intro x hx
  rw [sput] at hx
  split at hx
  ·rcases List.mem_cons.1 hx with rfl | hx
   ·exact ⟨z,rfl⟩
   ·exact h x (by simp [hx])
  ·rcases List.mem_cons.1 hx with rfl | hx
   ·exact h _ (by simp)
   ·exact ih (λ y hy=>h y (by simp [hy])) x hx
def fKV:List (ByteArray × Value):=[(⟨#[120]⟩,vI 0),(⟨#[121]⟩,vI 1),(⟨#[118,120]⟩,vI 2),(⟨#[118,121]⟩,vI 3),(⟨#[97]⟩,vI 4),(⟨#[98]⟩,vI 5),(⟨#[104,105,116]⟩,vI 6),(⟨#[115,116,105,108,108]⟩,vI 7)]
theorem fKV_int:AllInt fKV:=by
 intro x hx
 simp only [fKV,List.mem_cons,List.not_mem_nil,or_false] at hx
 rcases hx with rfl | rfl | rfl | rfl | rfl | rfl | rfl | rfl <;> exact ⟨_,rfl⟩
def fldF (s:ByteArray):Int:=if (sget fKV s).isSome=true then iget fKV s else -1
def opcF (s:ByteArray):Int:=if s=⟨#[43]⟩ then 9 else if s=⟨#[45]⟩ then 10 else if s=⟨#[42]⟩ then 11 else if s=⟨#[47]⟩ then 12 else if s=⟨#[60]⟩ then 14 else if s=⟨#[62]⟩ then 14 else if s=⟨#[60,61]⟩ then 15 else if s=⟨#[62,61]⟩ then 15 else 16
theorem opcF_bd (s:ByteArray):9 <= opcF s /\ opcF s <= 16:=by unfold opcF;(repeat' split) <;> decide
theorem opc_any (s:ByteArray) (F:HL):Sp Tryz.prog 100 #[.string s] [] F (λ u H'=>u=vI (opcF s) /\ H'=[]):=by
 refine Sp.run Tryz.func100 rfl mn (A:=[]) (Ts:=[]) rfl λ w0=>?_
 refine RN.go 18 [.sq] λ _=>RN.em (s=⟨#[43]⟩) 4 (λ h1=>?_) λ h1=>?_
 ·refine RN.go 6 [] λ _=>RN.ret [] [] [] (v:=vI 9) (H':=[]) ?_
  exact ⟨by rw [opcF,if_pos h1],rfl⟩
 ·refine RN.go 7 [.sq] λ _=>RN.em (s=⟨#[45]⟩) 6 (λ h2=>?_) λ h2=>?_
  ·refine RN.go 6 [] λ _=>RN.ret [] [] [] (v:=vI 10) (H':=[]) ?_
   exact ⟨by rw [opcF,if_neg h1,if_pos h2],rfl⟩
  ·refine RN.go 7 [.sq] λ _=>RN.em (s=⟨#[42]⟩) 8 (λ h3=>?_) λ h3=>?_
   ·refine RN.go 6 [] λ _=>RN.ret [] [] [] (v:=vI 11) (H':=[]) ?_
    exact ⟨by rw [opcF,if_neg h1,if_neg h2,if_pos h3],rfl⟩
   ·refine RN.go 7 [.sq] λ _=>RN.em (s=⟨#[47]⟩) 10 (λ h4=>?_) λ h4=>?_
    ·refine RN.go 6 [] λ _=>RN.ret [] [] [] (v:=vI 12) (H':=[]) ?_
     exact ⟨by rw [opcF,if_neg h1,if_neg h2,if_neg h3,if_pos h4],rfl⟩
    ·refine RN.go 8 [.sq] λ _=>RN.em (s=⟨#[60]⟩) 12 (λ h5=>?_) λ h5=>?_
     ·refine RN.go 9 [] λ _=>RN.ret [] [] [] (v:=vI 14) (H':=[]) ?_
      exact ⟨by rw [opcF,if_neg h1,if_neg h2,if_neg h3,if_neg h4,if_pos h5],rfl⟩
     ·refine RN.go 6 [.sq] λ _=>RN.em (s=⟨#[62]⟩) 12 (λ h6=>?_) λ h6=>?_
      ·refine RN.go 6 [] λ _=>RN.ret [] [] [] (v:=vI 14) (H':=[]) ?_
       exact ⟨by rw [opcF,if_neg h1,if_neg h2,if_neg h3,if_neg h4,if_neg h5,if_pos h6],rfl⟩
      ·refine RN.go 8 [.sq] λ _=>RN.em (s=⟨#[60,61]⟩) 15 (λ h7=>?_) λ h7=>?_
       ·refine RN.go 9 [] λ _=>RN.ret [] [] [] (v:=vI 15) (H':=[]) ?_
        exact ⟨by rw [opcF,if_neg h1,if_neg h2,if_neg h3,if_neg h4,if_neg h5,if_neg h6,if_pos h7],rfl⟩
       ·refine RN.go 6 [.sq] λ _=>RN.em (s=⟨#[62,61]⟩) 15 (λ h8=>?_) λ h8=>?_
        ·refine RN.go 6 [] λ _=>RN.ret [] [] [] (v:=vI 15) (H':=[]) ?_
         exact ⟨by rw [opcF,if_neg h1,if_neg h2,if_neg h3,if_neg h4,if_neg h5,if_neg h6,if_neg h7,if_pos h8],rfl⟩
        ·refine RN.go 9 [] λ _=>RN.ret [] [] [] (v:=vI 16) (H':=[]) ?_
         exact ⟨by rw [opcF,if_neg h1,if_neg h2,if_neg h3,if_neg h4,if_neg h5,if_neg h6,if_neg h7,if_neg h8],rfl⟩
theorem field_any (s:ByteArray) (F:HL):Sp Tryz.prog 61 #[.string s] [] F (λ u H'=>u=vI (fldF s) /\ H'=[]):=by
 refine Sp.run Tryz.func61 rfl mn (A:=[]) (Ts:=[]) rfl λ w0=>?_
 refine RN.go 23 (ow 0 16) λ n1=>RN.dn 0 (.obj (smap fKV))<|RN.goO 15 [.mp 0 fKV (.tuple #[vI (iget fKV s),.bool ((sget fKV s).isSome)])] (λ _=>[smap fKV=smap fKV /\ lkV fKV s true (vI 0)=.tuple #[vI (iget fKV s),.bool ((sget fKV s).isSome)]]) (λ _=>(ac ⟨rfl,(lk_int2 fKV_int _)⟩ an)) λ _=>RN.eb ((sget fKV s).isSome) 14 (λ h2=>?_) λ h2=>?_
 ·refine RN.go 7 [] λ _=>RN.ret [] [] [] (v:=vI (iget fKV s)) (H':=[]) ?_
  exact ⟨by unfold fldF;rw [if_pos h2],rfl⟩
 ·refine RN.go 8 [] λ _=>RN.ret [] [] [] (v:=vI (-1)) (H':=[]) ?_
  exact ⟨by unfold fldF;rw [if_neg (by simp [h2])],rfl⟩
end Go.Proofs.YtkhifpbokgabbaaGreatDoor
