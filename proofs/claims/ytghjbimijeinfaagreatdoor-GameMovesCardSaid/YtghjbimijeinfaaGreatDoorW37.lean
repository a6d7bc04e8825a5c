import Derived.Test.YtghjbimijeinfaaGreatDoorW36
import Derived.Test.YtghjbimijeinfaaGreatDoorW21
import Derived.Test.YtghjbimijeinfaaGreatDoorW35
import Derived.Test.YtghjbimijeinfaaGreatDoorW34
import Derived.Laws.IdiomCopy
import Derived.Test.YtghjbimijeinfaaGreatDoorW33
import Derived.Shelf.Small.Bits
import Derived.Shelf.Small.Strs
import Derived.Shelf.Strconv.Itoa0
import Derived.Shelf.Strings.Search1
import Derived.Shelf.Sort.Plain
import Derived.Ground.Names2Prog
import Derived.Shelf.Slices.CompactI
import Derived.Shelf.Slices.In.SortNone
import Derived.Test.YtghjbimijeinfaaGreatDoorProg
import Derived.Lib.RowBridge
set_option maxHeartbeats 4000000
set_option maxRecDepth 100000
set_option linter.unusedSimpArgs false
set_option linter.unusedVariables false
namespace Go.Proofs.YtghjbimijeinfaaGreatDoor
open Go.RowKit
def bndN (p n r f:Int):Int:=IntKind.i64.wrap ((IntKind.i64.wrap ((IntKind.i64.wrap ((IntKind.i64.wrap ((IntKind.i64.wrap (p+(IntKind.i64.wrap ((IntKind.i64.wrap ((IntKind.i64.wrap (p+1))+n)) * (IntKind.i64.wrap (f+3))))))+(IntKind.i64.wrap (2 * n))))+3))+(IntKind.i64.wrap ((IntKind.i64.wrap ((IntKind.i64.wrap (r * n)) * (IntKind.i64.wrap (n - 1)))).tdiv 2))))+(IntKind.i64.wrap (n * (IntKind.i64.wrap (n+1)))))
theorem bound_ok {S:Setup} (hS:SetV S):l0 S.players S.nb S.rounds 0 <= bndN S.players S.nb S.rounds 60 /\ bndN S.players S.nb S.rounds 60 <= 650:=by
  have hp:=hS.pl
  have hn:=hS.nb
  have hr:=hS.ro
  have key:∀ p:Fin 3,∀ n:Fin 5,∀ r:Fin 3,l0 ((p.1+1:Nat):Int) ((n.1+1:Nat):Int) ((r.1+1:Nat):Int) 0 <= bndN ((p.1+1:Nat):Int) ((n.1+1:Nat):Int) ((r.1+1:Nat):Int) 60 /\ bndN ((p.1+1:Nat):Int) ((n.1+1:Nat):Int) ((r.1+1:Nat):Int) 60 <= 650:=by decide +kernel
  have:=key ⟨S.players.toNat - 1,by omega⟩ ⟨S.nb - 1,by omega⟩ ⟨S.rounds.toNat - 1,by omega⟩
  dsimp only at this
  rwa [show ((S.players.toNat - 1+1:Nat):Int)=S.players by omega,show S.nb - 1+1=S.nb by omega,show ((S.rounds.toNat - 1+1:Nat):Int)=S.rounds by omega] at this
theorem setV {xs:List Int} {F:HL} {A:Option Addr} {n:Nat} (hl:ArgL F A n xs) {S:Setup} {T:HL} (h:SetG xs S T):SetV S:=by
  have h1:=sCnt_bd hl
  have h2:=sPl_bd hl
  have hn:=h.nb
  have k2:=kv_bd hl 2
  obtain ⟨e1,e2,e3,e4,e5,e6,e7,e8⟩:=h.nums
  exact ⟨by rw [h.pl];exact h2,by omega,by rw [e7];omega,by rw [e8];omega⟩
theorem vgetD_ne {l:List Int} {i j:Nat} {v:Int} (h:i ≠ j):(l.set i v).getD j 0=l.getD j 0:=by
  rw [List.getD_eq_getElem?_getD,List.getD_eq_getElem?_getD,List.getElem?_set_ne h]
theorem viniL_low {S:Setup} (hp:0 <= S.players) {j:Nat} (hj:j < 48):∀ i,i <= S.nb -> (iniL S i).getD j 0=0
  | 0,_=>by
    rw [iniL,List.getD_eq_getElem?_getD,List.getElem?_replicate]
    split <;> rfl
  | i+1,hi=>by
    have hb:bodyAt S (i:Int)=48+4 * S.players+8 * (i:Int):=by
      rcases vbodyAt hp (i:Int) with e | ⟨_,_,e⟩
      · unfold bodyAt at e
        rw [if_neg (by omega),if_neg (by omega)] at e;omega
      · exact e
    rw [iniL,vgetD_ne (by omega),vgetD_ne (by omega),vgetD_ne (by omega),vgetD_ne (by omega),vgetD_ne (by omega),vgetD_ne (by omega)]
    exact viniL_low hp hj i (by omega)
structure TE2 (S:Setup) (t:Int) (M:MemS):Prop where
  len:(M.cs.length:Int)=sizeOf S
  z:∀ k:Int,1 <= k -> k <= 10 -> M.get k=0
  t0:M.get 0=t
theorem ini_te2 {S:Setup} (hS:SetV S):TE2 S 0 ⟨iniL S S.nb,[],0⟩:=by
  have hp:=hS.pl
  have hlen:(((⟨iniL S S.nb,[],0⟩:MemS).cs.length:Nat):Int)=sizeOf S:=by
    show ((iniL S S.nb).length:Int)=_
    rw [iniL_len];unfold sizeOf;omega
  have g:∀ k:Int,0 <= k -> k < 48 -> (⟨iniL S S.nb,[],0⟩:MemS).get k=0:=λ k h0 h1=>by
    unfold MemS.get
    split
    · exact viniL_low (by omega) (by omega) S.nb (Nat.le_refl _)
    · rfl
  exact ⟨hlen,λ k h1 h2=>g k (by omega) (by omega),g 0 (by omega) (by omega)⟩
theorem TE2.tv {S:Setup} (hS:SetV S) {t:Int} (ht:0 <= t /\ t <= 1000) {M:MemS} (h:TE2 S t M) (ins:Nat -> Inp):TV S ins M /\ lfM S M=l0 S.players S.nb S.rounds 0 /\ stV M:=by
  have h1:=h.z 1 (by omega) (by omega)
  have h2:=h.z 2 (by omega) (by omega)
  have hp:=hS.pl
  refine ⟨⟨h.len,by rw [h.t0];omega,by rw [h1,h2];exact .inl ⟨rfl,by omega,by omega⟩,λ q hq=>by rw [h1,if_pos rfl,h2] at hq;omega,.inl ⟨h1,h2⟩⟩,?_,h1,h2⟩
  unfold lfM
  rw [h1,h2];rfl
theorem tickE {S:Setup} (hS:SetV S) {g:Gm} (hg:g.S=S) (hni:S.players <= g.ni) {t:Int} (ht:0 <= t /\ t <= 1000) {M:MemS} (h:TE2 S t M):∃ m,((m+1:Nat):Int) <= bndN S.players S.nb S.rounds 60 /\ goodRun g (m+1) M /\ TE2 S (t+1) (runM g (m+1) M) /\
    Numb t 0 (effsV g (m+1) M) /\ (runM g (m+1) M).get 11=((effsV g (m+1) M).length:Int) /\ ((effsV g (m+1) M).length:Int) <= 40:=by
  obtain ⟨h1,h2,h3⟩:=h.tv hS ht (λ q=>g.ins.getD (g.io+q) dI)
  have hb:=bound_ok hS
  have hpos:=lfV_pos hS.pl ⟨by have:=hS.nb;omega,by have:=hS.nb;omega⟩ hS.ro h1.ct
  unfold lfM at h2
  obtain ⟨m,a1,a2,a3,a4,a5,a6,a7,a8⟩:=tick_ok hS hg (λ _ _=>rfl) hni (l0 S.players S.nb S.rounds 0).toNat M h1 (by unfold lfM;omega)
  rw [if_pos h3] at a6 a7
  rw [h.t0] at a5 a6
  exact ⟨m,by omega,a2,⟨a4,a3,a5⟩,a6,by rw [a7];omega,by omega⟩
theorem SetEq.pl {S S1:Setup} (h:SetEq S S1):S1.players=S.players:=h.nums.1
theorem SetEq.nb {S S1:Setup} (h:SetEq S S1):S1.nb=S.nb:=h.nums.2.1
theorem SetEq.size {S S1:Setup} (h:SetEq S S1):sizeOf S1=sizeOf S:=by unfold sizeOf;rw [h.pl,h.nb]
theorem SetEq.setV {S S1:Setup} (h:SetEq S S1) (hV:SetV S):SetV S1:=by
  obtain ⟨e1,e2,_,_,_,_,_,_,_,_,e3,e4⟩:=h.nums
  exact ⟨by rw [e1];exact hV.pl,by rw [e2];exact hV.nb,by rw [e3];exact hV.ro,by rw [e4];exact hV.fu⟩
theorem TE2.eq {S S1:Setup} (h:SetEq S S1) {t:Int} {M:MemS} (hT:TE2 S t M):TE2 S1 t M:=⟨by rw [h.size];exact hT.len,hT.z,hT.t0⟩
theorem nm_bods {S S':Setup} (h:SetEq S S'):(S'.bods.drop S'.bo).map Bod.nm=(List.range S.nb).map λ k=>(S.body k).nm:=by
  rw [h.whole.1,List.drop_zero]
  apply List.ext_getElem?
  intro k
  by_cases hk:k < S.nb
  · obtain ⟨A,c,e⟩:=h.bod k hk
    have hl:k < S'.bods.length:=by rw [h.whole.2];exact hk
    have e2:S'.bods[k]?=some (S'.body k):=by
      show _=some (S'.bods.getD (S'.bo+k) dB)
      rw [h.whole.1,Nat.zero_add,List.getD_eq_getElem?_getD,List.getElem?_eq_getElem hl];rfl
    rw [List.getElem?_map,e2,e]
    simp [hk]
    rfl
  · rw [List.getElem?_eq_none (by rw [List.length_map,h.whole.2];omega),List.getElem?_eq_none (by simp;omega)]
theorem SetEq.nm2 {S S1 S2:Setup} (h1:SetEq S S1) (h2:SetEq S S2):S1.nm=S2.nm:=by
  have b1:=nm_bods h1
  have b2:=nm_bods h2
  obtain ⟨x1,x2,x3,x4,x5,x6,x7,x8,x9,x10,x11,x12⟩:=h1.nums
  obtain ⟨y1,y2,y3,y4,y5,y6,y7,y8,y9,y10,y11,y12⟩:=h2.nums
  unfold Setup.nm
  rw [b1,b2,x1,x2,x3,x4,x5,x6,x7,x8,x9,x10,x11,x12,y1,y2,y3,y4,y5,y6,y7,y8,y9,y10,y11,y12]
theorem gmB_eq2 {S1 S2:Setup} (h:S1.nm=S2.nm) (j:Nat × Int) (n:Nat) (xs:List Inp):GEq (gmB S1 j n xs) (gmB S2 j n xs):=by
  refine ⟨?_,λ k hk=>rfl⟩
  unfold Gm.nm
  simp only [h]
theorem wrong0 {pl:Int} {n:Nat} {xs:List Inp} {now:Int} (h1:(n:Int)=pl) (h2:∀ k,k < n -> okIn (xs.getD k dI)) (h3:now < 6000):wrongE pl n xs now=0:=by
  unfold wrongE
  rw [if_pos h1,if_pos h2,if_neg (by omega)]
theorem tk_ok1 {S1:Setup} (hV:SetV S1) {t:Int} (ht:0 <= t /\ t <= 1000) {M:MemS} (hT:TE2 S1 t M) {xs:List Inp} (h1:(xs.length:Int)=S1.players) (h2:∀ k,k < xs.length -> okIn (xs.getD k dI)) (j:Nat × Int):TkOk S1 j xs M /\ TE2 S1 (t+1) (tkM (gmX S1 j xs) M):=by
  obtain ⟨m,a1,a2,a3,_⟩:=tickE hV (g:=gmX S1 j xs) rfl (by show S1.players <= (xs.length:Int);omega) ht hT
  have hb:=(bound_ok hV).2
  refine ⟨⟨⟨m,by omega,a2⟩,by rw [hT.t0];exact ht.1,by rw [hT.t0];exact wrong0 h1 h2 (by omega)⟩,?_⟩
  rw [<- (tk_of (by omega) a2).1]
  exact a3
def RowOk (pl:Int) (xs:List Inp):Prop:=(xs.length:Int)=pl /\ ∀ k,k < xs.length -> okIn (xs.getD k dI)
theorem rowOf_ok {n:Int} (h:0 <= n):okIn (rowOf n):=by
  unfold okIn rowOf
  dsimp only
  split <;> omega
theorem gen_row {F:HL} {A:Option Addr} {n:Nat} {xs:List Int} (hl:ArgL F A n xs) {pl:Int} (hp:0 <= pl) (t:Int):RowOk pl (rowL pl xs t pl.toNat):=by
  refine ⟨by rw [rowL_len];omega,λ k hk=>?_⟩
  rw [rowL_len] at hk
  rw [rowL_get hk]
  exact rowOf_ok (rowN_bd hl pl t k).1
theorem gen_rows {F:HL} {A:Option Addr} {n:Nat} {xs:List Int} (hl:ArgL F A n xs) {pl:Int} (hp:0 <= pl) (cnt i:Nat) (hi:i < cnt):RowOk pl ((rowsG pl xs cnt).getD i []):=by
  rw [rowsG_get hi]
  exact gen_row hl hp _
theorem ini_eq {S S1:Setup} (hV:SetV S) (he:SetEq S S1):TE2 S1 0 ⟨iniL S S.nb,[],0⟩:=(ini_te2 hV).eq he
section
variable {S S1:Setup} {rs_:List Bx} {ds_:List Dr} {bp n cap:Nat} {j:Nat × Int} {A:Option Addr} {rs:List Rw} {xss:List (List Inp)} {F:HL}
end
theorem take_drop_get {α:Type} {l r:List α} {o:Nat} (h:(l.drop o).take r.length=r) {k:Nat} (hk:k < r.length) (d:α):l.getD (o+k) d=r.getD k d:=by
 have h1:((l.drop o).take r.length)[k]?=r[k]?:=by rw [h]
 rw [List.getElem?_take,if_pos hk,List.getElem?_drop] at h1
 rw [List.getD_eq_getElem?_getD,List.getD_eq_getElem?_getD,h1]
open Go.Shelf
section
variable {r:Option Nat} {P:Program} {N:Nat} {D:List Deferred} {F:HL} {w0:World} {R:HL} {s:Cfg} {Q:Exit -> Act -> World -> Prop}
end
section
variable {r:Option Nat} {P:Program} {N:Nat} {D:List Deferred} {F:HL} {w0:World} {R:HL} {s:Cfg} {Q:Exit -> Act -> World -> Prop}
end
section
variable {α:Type} {e:Enc α} {T:TypeId} {F:HL} {A:Option Addr} {n cap:Nat} {xs:List α} {Hl:HL}
end
section
variable {tk:Int} {S S1 S2:Setup} {rs_:List Bx} {ds_:List Dr} {bp gb n cap k t j1 j2:Nat} {A:Option Addr} {rs:List Rw} {xss:List (List Inp)} {M R:MemS} {G0 F TB:HL}
end
inductive GameX (rs:List Bx) (ds:List Dr) (bp gb mb:Nat) (S:Setup) (M:MemS) (k:Nat):HL -> Prop
 | mk (T U:HL) (hM:MemH mb M k T) (hU:SetTl S rs ds U):GameX rs ds bp gb mb S M k (ap [(gb,.lit (gameL S bp mb) 115 (0,0))] [T,U])
section
variable {rs:List Bx} {ds:List Dr} {bp gb mb:Nat} {S:Setup} {M:MemS} {k:Nat} {G0:HL}
theorem GameH.x (h:GameH rs ds bp gb S M k G0):∃ mb,GameX rs ds bp gb mb S M k G0:=by
 cases h with
 | mk mb T U hM hU=>exact ⟨mb,.mk T U hM hU⟩
theorem GameX.h (h:GameX rs ds bp gb mb S M k G0):GameH rs ds bp gb S M k G0:=by
 cases h with
 | mk T U hM hU=>exact .mk mb T U hM hU
theorem GameX.weak (h:GameX rs ds bp gb mb S M k G0) {k':Nat} (hk:k' <= k):GameX rs ds bp gb mb S M k' G0:=by
 cases h with
 | mk T U hM hU=>exact .mk T U (hM.weak hk) hU
theorem GameX.mem (h:GameX rs ds bp gb mb S M k G0):∃ T,MemH mb M k T /\ ∀ x ∈ T,x ∈ G0:=by
 cases h with
 | mk T U hM hU=>exact ⟨T,hM,λ x hx=>by simp [ap,hx]⟩
theorem gmemX (h:GameX rs ds bp gb mb S M k G0) {F:HL} (hF:∀ x ∈ G0,x ∈ F):Sp Tryz.prog 12 #[vP gb 0] [] F (λ u H'=>u=vP mb 0 /\ H'=[]):=by
 cases h with
 | mk T U hM hU=>exact gmem_any S bp gb mb F (hF _ (by simp [ap]))
theorem cellsX (h:GameX rs ds bp gb mb S M k G0) {F:HL} (hF:∀ x ∈ G0,x ∈ F):Sp Tryz.prog 13 #[vP mb 0] (ap [] []) F (λ u H'=>∃ q,H'=ap [(q,.rows 1 M.cs.length (irow M.cs) 3 (0,0))] [] /\ u=vS q 0 M.cs.length M.cs.length):=by
 obtain ⟨T,hM,hT⟩:=h.mem
 exact cells_ap mb M k T F hM λ x hx=>hF x (hT x hx)
end
section
variable {r:Option Nat} {P:Program} {N:Nat} {D:List Deferred} {F:HL} {w0:World} {R:HL} {s:Cfg} {Q:Exit -> Act -> World -> Prop}
def cutC (K:Act -> World -> Prop) (s:Cfg):Cfg:=match s with
  | ⟨.code c,k,L,A,Ts⟩=>⟨.code c,.met K :: k,L,A,Ts⟩
  | s=>s
def isCode (s:Cfg):Bool:=match s.c with
  | .code _=>true
  | _=>false
def behC (V:Inv) (s:Cfg):Cfg:=⟨.ex .normal,s.k,V.L,V.A,V.Ts⟩
theorem RN.cut {σ:Type} (V:σ -> Inv)
    (first:(∀ {s':Cfg} {R':HL} (x':σ) (ip jp:List Nat),(V x').I -> (hm:metK s'=some (MV N D F w0 V (λ x'=>(V x').I)):=by kernel_rfl) -> (h:fits (V x') ip jp s'=fitsV (V x'):=by kernel_rfl) -> (hp:permOk ip jp s'=true:=by kernel_rfl) -> RN r P N D F w0 R' s' Q) ->
      RN r P N D F w0 R (cutC (MV N D F w0 V (λ x'=>(V x').I)) s) Q)
    (rest:∀ x,(V x).I -> RN r P N D F w0 R (behC (V x) s) Q) (hc:isCode s=true:=by kernel_rfl):RN r P N D F w0 R s Q:=by
  refine ⟨λ hR a w h1 h2 h3=>?_⟩
  have h4:=(first (λ x' ip jp hi hm h hp=>RN.meet x' ip jp hi hm h hp)).h hR
  obtain ⟨c,k,L,A,Ts⟩:=s
  unfold isCode at hc
  split at hc
  case h_2=>cases hc
  rename_i c' e1
  simp only at e1
  subst e1
  refine wpIn_mono (h4 a w h1 h2 h3) λ e a w q=>?_
  cases e with
  | normal =>
    obtain ⟨x,hI,m1,m2,m3⟩:=q
    exact (rest x hI).h hR a w m1 m2 m3
  | exit id=>exact q
  | goto l=>exact q
  | ret=>exact q
  | panic ch=>exact q
  | outgrown=>exact q
end
theorem SlIs.openL {α:Type} {e:Enc α} {T:TypeId} {l:List α} {A:Option Addr} {cap:Nat} {Hl:HL} (h:SlIs e T l A cap Hl) (hz:zeroOff A) (hw:0 < e.w) (hl:0 < l.length):∃ b rest,A=some ⟨b,0,none⟩ /\ Hl=[(b,.rows e.w cap (rowE e (l++rest)) T (0,0))] /\ (l++rest).length=cap:=by
 rcases h with ⟨_,_,rfl,_⟩ | ⟨b,o,full,rfl,rfl,h3,h4,h5⟩
 ·simp at hl
 ·have ho:o=0:=by
   have h6:o * e.w=0:=hz
   rcases Nat.mul_eq_zero.1 h6 with h | h
   ·exact h
   ·omega
  subst ho
  have:l++full.drop l.length=full:=by
   conv=>lhs;lhs;rw [<- h5]
   rw [List.drop_zero,List.take_append_drop]
  refine ⟨b,full.drop l.length,by rw [Nat.zero_mul],?_,by rw [this];omega⟩
  rw [this,Nat.zero_add]
def rg (lo:Int) (n:Nat):List Int:=(List.range n).map λ k:Nat=>lo+(k:Int)
theorem rg_succ (lo:Int) (n:Nat):rg lo (n+1)=rg lo n++[lo+(n:Int)]:=by simp [rg,List.range_succ]
theorem rg_len (lo:Int) (n:Nat):(rg lo n).length=n:=by simp [rg]
theorem rg_mem {lo y:Int} {n:Nat}:y ∈ rg lo n ↔ lo <= y /\ y < lo+(n:Int):=by
 unfold rg
 rw [List.mem_map]
 constructor
 ·rintro ⟨k,hk,rfl⟩;have:=List.mem_range.1 hk;omega
 ·intro h;exact ⟨(y - lo).toNat,List.mem_range.2 (by omega),by omega⟩
theorem span_any (l:List Int) (A:Option Addr) (c:Nat) (T:HL) (lo:Int) (n:Nat) (F:HL) (hs:SlIs intE 3 l A c T) (hz:zeroOff A) (hl:l.length <= 100000) (hlo:-1000000000 <= lo /\ lo <= 2000000000) (hn:n <= 1000):Sp Tryz.prog 44 #[.slice A l.length c,vI lo,vI (lo+(n:Int))] (ap [] [T]) F (λ u H'=>∃ x:List Int × Option Addr × Nat × HL,H'=ap [] [x.2.2.2] /\ (u=.slice x.2.1 x.1.length x.2.2.1 /\ SlIs intE 3 x.1 x.2.1 x.2.2.1 x.2.2.2 /\ zeroOff x.2.1 /\ x.1=l++rg lo n)):=by
 refine Sp.run Tryz.func44 rfl mn (A:=[]) (Ts:=[T]) rfl λ w0=>?_
 refine RN.go 13 [] λ _=>RN.loop (σ:=Nat × Int × Option Addr × Nat × HL) (λ ⟨k,q,A_,c_,T_⟩=>⟨[(0,.slice A_ (l.length+k) c_),(2,vI (lo+(n:Int))),(7,vI q)],[],[T_],k <= n /\ q=lo+(k:Int) /\ SlIs intE 3 (l++rg lo k) A_ c_ T_ /\ zeroOff A_,n - k⟩) (0,lo,A,c,T) [] [0] (⟨Nat.zero_le _,by omega,by simpa [rg] using hs,hz⟩) ?_
 rintro ⟨k,q,A_,c_,T_⟩ ⟨hk_,hq_,hs_,hz_⟩ mt2
 refine RN.go 8 [] λ _=>RN.em (q < lo+(n:Int)) 11 (λ h3=>?_) λ h3=>?_
 ·refine RN.go 9 [] λ n4=>RN.app intEOk (l++rg lo k) [q] 0 0 (by rw [List.length_append,rg_len]) hs_ (by rw [List.length_append,rg_len];show l.length+k+1 <= 100000000;omega) ?_
  rintro A5 c6 T7 ⟨hs8,hz9⟩
  refine RN.goP 9 [.nw] [I64 (q+1)] λ _=>?_
  have hz2:=hz9 hz_
  refine mt2 (k+1,q+1,A5,c6,T7) [] [0] ?_
  try dsimp only
  refine ⟨⟨by omega,by omega,?_,hz2⟩,by omega⟩
  rw [rg_succ,<- List.append_assoc,show lo+(k:Int)=q by omega]
  exact hs8
 ·refine RN.go 12 [] λ _=>RN.ret [] [] [0] (v:=.slice A_ (l.length+k) c_) (H':=(ap [] [T_])) ?_
  obtain rfl:k=n:=by omega
  exact ⟨(l++rg lo k,A_,c_,T_),rfl,by rw [List.length_append,rg_len],hs_,hz_,rfl⟩
def opl (M:MemS) (k:Int):List Int:=if 0 <= IntKind.i64.wrap (M.get 7 - k) /\ IntKind.i64.wrap (M.get 7 - k) < 16 then [M.get (16+IntKind.i64.wrap (M.get 7 - k))] else []
def operL (M:MemS):List Int:=opl M 1++opl M 2
theorem opl_len (M:MemS) (k:Int):(opl M k).length <= 1:=by unfold opl;split <;> simp
theorem operL_len (M:MemS):(operL M).length <= 2:=by have h1:=opl_len M 1;have h2:=opl_len M 2;unfold operL;rw [List.length_append];omega
theorem opers_any (mb k:Nat) (M:MemS) (T F:HL) (h:MemH mb M k T) (hT:∀ x ∈ T,x ∈ F):Sp Tryz.prog 45 #[.iface 40 (vP mb 0)] [] F (λ u H'=>∃ x:List Int × Option Addr × Nat × HL,H'=ap [] [x.2.2.2] /\ (u=.slice x.2.1 x.1.length x.2.2.1 /\ SlIs intE 3 x.1 x.2.1 x.2.2.1 x.2.2.2 /\ zeroOff x.2.1 /\ x.1=operL M)):=by
 refine Sp.run Tryz.func45 rfl mn (A:=[]) (Ts:=[]) rfl λ w0=>?_
 refine RN.go 13 [] λ _=>RN.cp (get_any 7 h (λ x hx=>ro_ap (hT x hx)))<|RN.go 10 [] λ _=>RN.rounds 2<|RN.go 25 [] λ _=>RN.em (IntKind.i64.wrap ((M.get 7) - 1) >= 0) 18 (λ h1=>?_) λ h1=>?_
 ·refine RN.go 5 [] λ _=>RN.em (IntKind.i64.wrap ((M.get 7) - 1) < 16) 21 (λ h2=>?_) λ h2=>?_
  ·refine RN.goP 6 [.nw] [I64 (16+(IntKind.i64.wrap ((M.get 7) - 1)))] λ _=>RN.cp (get_any (16+(IntKind.i64.wrap ((M.get 7) - 1))) h (λ x hx=>ro_ap (hT x hx)))<|RN.go 1 [] λ n3=>RN.nt<|RN.app intEOk ([]) [M.get (16+(IntKind.i64.wrap ((M.get 7) - 1)))] 0 0 rfl (SlIs.nil _ _) (Nat.le_of_ble_eq_true rfl) ?_
   rintro A4 c5 T6 ⟨hs7,hz8⟩
   refine RN.go 35 [] λ _=>RN.em (IntKind.i64.wrap ((M.get 7) - 2) >= 0) 18 (λ h9=>?_) λ h9=>?_
   ·refine RN.go 5 [] λ _=>RN.em (IntKind.i64.wrap ((M.get 7) - 2) < 16) 21 (λ h10=>?_) λ h10=>?_
    ·refine RN.goP 6 [.nw] [I64 (16+(IntKind.i64.wrap ((M.get 7) - 2)))] λ _=>RN.cp (get_any (16+(IntKind.i64.wrap ((M.get 7) - 2))) h (λ x hx=>ro_ap (hT x hx)))<|RN.go 1 [] λ n11=>RN.app intEOk ([]++[M.get (16+(IntKind.i64.wrap ((M.get 7) - 1)))]) [M.get (16+(IntKind.i64.wrap ((M.get 7) - 2)))] 0 0 rfl hs7 (Nat.le_of_ble_eq_true rfl) ?_
     rintro A12 c13 T14 ⟨hs15,hz16⟩
     refine RN.go 29 [] λ _=>RN.ret [] [] [0] (v:=.slice A12 2 c13) (H':=(ap [] [T14])) ?_
     refine ⟨([]++[M.get (16+(IntKind.i64.wrap ((M.get 7) - 1)))]++[M.get (16+(IntKind.i64.wrap ((M.get 7) - 2)))],A12,c13,T14),rfl,rfl,hs15,(hz16 (hz8 trivial)),?_⟩
     unfold operL opl
     first | (rw [if_pos (by omega),if_pos (by omega)] <;> rfl) | (rw [if_pos (by omega),if_neg (by omega)] <;> rfl) | (rw [if_neg (by omega),if_pos (by omega)] <;> rfl)
    ·refine RN.go 29 [] λ _=>RN.ret [] [] [0] (v:=.slice A4 1 c5) (H':=(ap [] [T6])) ?_
     refine ⟨([]++[M.get (16+(IntKind.i64.wrap ((M.get 7) - 1)))],A4,c5,T6),rfl,rfl,hs7,(hz8 trivial),?_⟩
     unfold operL opl
     first | (rw [if_pos (by omega),if_pos (by omega)] <;> rfl) | (rw [if_pos (by omega),if_neg (by omega)] <;> rfl) | (rw [if_neg (by omega),if_pos (by omega)] <;> rfl)
   ·refine RN.go 34 [] λ _=>RN.ret [] [] [0] (v:=.slice A4 1 c5) (H':=(ap [] [T6])) ?_
    refine ⟨([]++[M.get (16+(IntKind.i64.wrap ((M.get 7) - 1)))],A4,c5,T6),rfl,rfl,hs7,(hz8 trivial),?_⟩
    unfold operL opl
    first | (rw [if_pos (by omega),if_pos (by omega)] <;> rfl) | (rw [if_pos (by omega),if_neg (by omega)] <;> rfl) | (rw [if_neg (by omega),if_pos (by omega)] <;> rfl)
  ·refine RN.go 35 [] λ _=>RN.em (IntKind.i64.wrap ((M.get 7) - 2) >= 0) 18 (λ h17=>?_) λ h17=>?_
   ·refine RN.go 5 [] λ _=>RN.em (IntKind.i64.wrap ((M.get 7) - 2) < 16) 21 (λ h18=>?_) λ h18=>?_
    ·refine RN.goP 6 [.nw] [I64 (16+(IntKind.i64.wrap ((M.get 7) - 2)))] λ _=>RN.cp (get_any (16+(IntKind.i64.wrap ((M.get 7) - 2))) h (λ x hx=>ro_ap (hT x hx)))<|RN.go 1 [] λ n19=>RN.nt<|RN.app intEOk ([]) [M.get (16+(IntKind.i64.wrap ((M.get 7) - 2)))] 0 0 rfl (SlIs.nil _ _) (Nat.le_of_ble_eq_true rfl) ?_
     rintro A20 c21 T22 ⟨hs23,hz24⟩
     refine RN.go 29 [] λ _=>RN.ret [] [] [0] (v:=.slice A20 1 c21) (H':=(ap [] [T22])) ?_
     refine ⟨([]++[M.get (16+(IntKind.i64.wrap ((M.get 7) - 2)))],A20,c21,T22),rfl,rfl,hs23,(hz24 trivial),?_⟩
     unfold operL opl
     first | (rw [if_pos (by omega),if_pos (by omega)] <;> rfl) | (rw [if_pos (by omega),if_neg (by omega)] <;> rfl) | (rw [if_neg (by omega),if_pos (by omega)] <;> rfl)
    ·refine RN.go 29 [] λ _=>RN.nt<|RN.ret [] [] [0] (v:=.slice none 0 0) (H':=(ap [] [([]:HL)])) ?_
     exact ⟨([],none,0,[]),rfl,rfl,SlIs.nil _ _,trivial,by unfold operL opl;rw [if_neg (by omega),if_neg (by omega)];rfl⟩
   ·refine RN.go 34 [] λ _=>RN.nt<|RN.ret [] [] [0] (v:=.slice none 0 0) (H':=(ap [] [([]:HL)])) ?_
    exact ⟨([],none,0,[]),rfl,rfl,SlIs.nil _ _,trivial,by unfold operL opl;rw [if_neg (by omega),if_neg (by omega)];rfl⟩
 ·refine RN.go 40 [] λ _=>RN.em (IntKind.i64.wrap ((M.get 7) - 2) >= 0) 18 (λ h25=>?_) λ h25=>?_
  ·refine RN.go 5 [] λ _=>RN.em (IntKind.i64.wrap ((M.get 7) - 2) < 16) 21 (λ h26=>?_) λ h26=>?_
   ·refine RN.goP 6 [.nw] [I64 (16+(IntKind.i64.wrap ((M.get 7) - 2)))] λ _=>RN.cp (get_any (16+(IntKind.i64.wrap ((M.get 7) - 2))) h (λ x hx=>ro_ap (hT x hx)))<|RN.go 1 [] λ n27=>RN.nt<|RN.app intEOk ([]) [M.get (16+(IntKind.i64.wrap ((M.get 7) - 2)))] 0 0 rfl (SlIs.nil _ _) (Nat.le_of_ble_eq_true rfl) ?_
    rintro A28 c29 T30 ⟨hs31,hz32⟩
    refine RN.go 29 [] λ _=>RN.ret [] [] [0] (v:=.slice A28 1 c29) (H':=(ap [] [T30])) ?_
    refine ⟨([]++[M.get (16+(IntKind.i64.wrap ((M.get 7) - 2)))],A28,c29,T30),rfl,rfl,hs31,(hz32 trivial),?_⟩
    unfold operL opl
    first | (rw [if_pos (by omega),if_pos (by omega)] <;> rfl) | (rw [if_pos (by omega),if_neg (by omega)] <;> rfl) | (rw [if_neg (by omega),if_pos (by omega)] <;> rfl)
   ·refine RN.go 29 [] λ _=>RN.nt<|RN.ret [] [] [0] (v:=.slice none 0 0) (H':=(ap [] [([]:HL)])) ?_
    exact ⟨([],none,0,[]),rfl,rfl,SlIs.nil _ _,trivial,by unfold operL opl;rw [if_neg (by omega),if_neg (by omega)];rfl⟩
  ·refine RN.go 34 [] λ _=>RN.nt<|RN.ret [] [] [0] (v:=.slice none 0 0) (H':=(ap [] [([]:HL)])) ?_
   exact ⟨([],none,0,[]),rfl,rfl,SlIs.nil _ _,trivial,by unfold operL opl;rw [if_neg (by omega),if_neg (by omega)];rfl⟩
end Go.Proofs.YtghjbimijeinfaaGreatDoor
namespace Go.Proofs
open Go.Shelf
open Go.RowKit Go.Lib in
def Tryz.lays189_ren:Go.Shelf.Ren:=⟨λ | 189=>47 | 125=>84 | 257=>83 | 128=>147 | 129=>148 | 294=>138 | 295=>139 | 296=>140 | 297=>141 | 298=>142 | 299=>143 | 216=>144 | 300=>145 | 301=>146 | 328=>194 | 329=>195 | 330=>196 | 331=>197 | 332=>198 | 215=>199 | 343=>248 | n=>n,λ | 28=>22 | 3=>3 | 46=>191 | 0=>0 | 51=>271 | 53=>77 | 4=>4 | 183=>265 | 182=>264 | 131=>175 | 5=>5 | 9=>9 | 218=>316 | 222=>319 | 228=>366 | 229=>367 | n=>n,λ | n=>n⟩
theorem Tryz.lays189:Go.Proofs.Lays.n189 Tryz.prog Tryz.lays189_ren:={
 mixed:=by kernel_rfl
 f125:=Tryz.func84.trans (congrArg some (by kernel_rfl))
 f128:=Tryz.func147.trans (congrArg some (by kernel_rfl))
 f129:=Tryz.func148.trans (congrArg some (by kernel_rfl))
 f189:=Tryz.func47.trans (congrArg some (by kernel_rfl))
 f215:=Tryz.func199.trans (congrArg some (by kernel_rfl))
 f216:=Tryz.func144.trans (congrArg some (by kernel_rfl))
 f257:=Tryz.func83.trans (congrArg some (by kernel_rfl))
 f294:=Tryz.func138.trans (congrArg some (by kernel_rfl))
 f295:=Tryz.func139.trans (congrArg some (by kernel_rfl))
 f296:=Tryz.func140.trans (congrArg some (by kernel_rfl))
 f297:=Tryz.func141.trans (congrArg some (by kernel_rfl))
 f298:=Tryz.func142.trans (congrArg some (by kernel_rfl))
 f299:=Tryz.func143.trans (congrArg some (by kernel_rfl))
 f300:=Tryz.func145.trans (congrArg some (by kernel_rfl))
 f301:=Tryz.func146.trans (congrArg some (by kernel_rfl))
 f328:=Tryz.func194.trans (congrArg some (by kernel_rfl))
 f329:=Tryz.func195.trans (congrArg some (by kernel_rfl))
 f330:=Tryz.func196.trans (congrArg some (by kernel_rfl))
 f331:=Tryz.func197.trans (congrArg some (by kernel_rfl))
 f332:=Tryz.func198.trans (congrArg some (by kernel_rfl))
 f343:=Tryz.func248.trans (congrArg some (by kernel_rfl))
 t0:=Tryz.underlying0
 a0:=Tryz.isAgg0
 z0:=Tryz.sizeOf0
 v0:=Tryz.zeroValue0
 t3:=Tryz.underlying3
 a3:=Tryz.isAgg3
 z3:=Tryz.sizeOf3
 v3:=Tryz.zeroValue3
 t4:=Tryz.underlying4
 a4:=Tryz.isAgg4
 z4:=Tryz.sizeOf4
 v4:=Tryz.zeroValue4
 t5:=Tryz.underlying5
 a5:=Tryz.isAgg5
 z5:=Tryz.sizeOf5
 v5:=Tryz.zeroValue5
 t9:=Tryz.underlying9
 a9:=Tryz.isAgg9
 z9:=Tryz.sizeOf9
 v9:=Tryz.zeroValue9
 t28:=Tryz.underlying22
 a28:=Tryz.isAgg22
 z28:=Tryz.sizeOf22
 v28:=Tryz.zeroValue22
 t46:=Tryz.underlying191
 a46:=Tryz.isAgg191
 z46:=Tryz.sizeOf191
 v46:=Tryz.zeroValue191
 t51:=Tryz.underlying271
 a51:=Tryz.isAgg271
 z51:=Tryz.sizeOf271
 v51:=Tryz.zeroValue271
 t53:=Tryz.underlying77
 a53:=Tryz.isAgg77
 z53:=Tryz.sizeOf77
 v53:=Tryz.zeroValue77
 t131:=Tryz.underlying175
 a131:=Tryz.isAgg175
 z131:=Tryz.sizeOf175
 v131:=Tryz.zeroValue175
 t182:=Tryz.underlying264
 a182:=Tryz.isAgg264
 z182:=Tryz.sizeOf264
 v182:=Tryz.zeroValue264
 t183:=Tryz.underlying265
 a183:=Tryz.isAgg265
 z183:=Tryz.sizeOf265
 v183:=Tryz.zeroValue265
 t218:=Tryz.underlying316
 a218:=Tryz.isAgg316
 z218:=Tryz.sizeOf316
 v218:=Tryz.zeroValue316
 t222:=Tryz.underlying319
 a222:=Tryz.isAgg319
 z222:=Tryz.sizeOf319
 v222:=Tryz.zeroValue319
 t228:=Tryz.underlying366
 a228:=Tryz.isAgg366
 z228:=Tryz.sizeOf366
 v228:=Tryz.zeroValue366
 t229:=Tryz.underlying367
 a229:=Tryz.isAgg367
 z229:=Tryz.sizeOf367
 v229:=Tryz.zeroValue367 }
open Go.Sort Go.RowKit in
theorem Tryz.slices_Sort_int (blk off cap:Nat) (zs:List Int) (w:World) (hH:Holds (Value.int .i64) w blk off zs.toArray) (hblk:blk < w.heap.size) (hsz:zs.length < 4611686018427387904) :
  Calls Tryz.prog 47 #[.slice (some ⟨blk,off,none⟩) zs.length cap] w λ e w' =>
   e=.returned (.tuple #[]) /\ ∃ n os,w'=grow (putRow (Value.int .i64) (Sort.ahead w n) blk off (zs.mergeSort λ x y=>decide (x <= y)).toArray) os:=Any.slices_Sort_int Tryz.lays189 blk off cap zs w hH hblk hsz
def Tryz.laysNm220_ren:Go.Shelf.Ren:=⟨λ | 20=>48 | n=>n,λ | 22=>22 | 3=>3 | 4=>4 | 0=>0 | n=>n,λ | n=>n⟩
theorem Tryz.laysNm220:Go.Proofs.Lays2.n20 Tryz.prog Tryz.laysNm220_ren:={
 mixed:=by kernel_rfl
 f20:=Tryz.func48.trans (congrArg some (by kernel_rfl))
 t0:=Tryz.underlying0
 a0:=Tryz.isAgg0
 z0:=Tryz.sizeOf0
 v0:=Tryz.zeroValue0
 t3:=Tryz.underlying3
 a3:=Tryz.isAgg3
 z3:=Tryz.sizeOf3
 v3:=Tryz.zeroValue3
 t4:=Tryz.underlying4
 a4:=Tryz.isAgg4
 z4:=Tryz.sizeOf4
 v4:=Tryz.zeroValue4
 t22:=Tryz.underlying22
 a22:=Tryz.isAgg22
 z22:=Tryz.sizeOf22
 v22:=Tryz.zeroValue22
 i3:=by kernel_rfl }
open Go.RowKit Go.Lib Go.Sort in
theorem Tryz.slices_Compact_int (blk off cap:Nat) (zs:List Int) (w:World) (hH:Holds (Value.int .i64) w blk off zs.toArray) (hsz:zs.length <= 9223372036854775807) (hcap:zs.length <= cap) :
  Calls Tryz.prog 48 #[.slice (some ⟨blk,off,none⟩) zs.length cap] w λ e w'=>e=.returned (.slice (some ⟨blk,off,none⟩) (Lib.compact zs).length cap) /\ ∃ q,w'=putRow (Value.int .i64) (Sort.ahead w q) blk off (Lib.compact zs++List.replicate (zs.length - (Lib.compact zs).length) 0).toArray:=Any.slices_Compact_int Tryz.laysNm220 blk off cap zs w hH hsz hcap
open Go.RowKit Go.Lib Go.Sort in
theorem Tryz.slices_Compact_int_empty (a:Option Addr) (cap:Nat) (w:World) :
  Calls Tryz.prog 48 #[.slice a 0 cap] w λ e w'=>e=.returned (.slice a 0 cap) /\ w'=w:=Any.slices_Compact_int_empty Tryz.laysNm220 a cap w
open Go.RowKit Go.Sort in
theorem Tryz.slices_Sort_int_none (p:Option Addr) (cap:Nat) (w:World) :
  Calls Tryz.prog 47 #[.slice p 0 cap] w λ e w'=>e=.returned (.tuple #[]) /\ w'=w:=Any.slices_Sort_int_none Tryz.lays189 p cap w
end Go.Proofs
namespace Go.Proofs.YtghjbimijeinfaaGreatDoor
open Go.RowKit
theorem cells_int (l:List Int):cellsE intE l=l.map vI:=by
  induction l with
  | nil=>rfl
  | cons x l ih =>
    show ((List.range 1).map (intE.cell x))++cellsE intE l=_
    rw [ih];rfl
theorem den_int (l:List Int) (c:Nat) (h:l.length=c) (T:TypeId):(Blk.rows 1 c (rowE intE l) T (0,0)).den=.cells ⟨l.map vI⟩ T (0,0):=by
  subst h
  show Obj.cells ⟨rowsOf 1 (rowE intE l) l.length⟩ T (0,0)=_
  have:=rows_all (e:=intE) l
  rw [cells_int] at this
  rw [show rowsOf 1 (rowE intE l) l.length=rowsOf intE.w (rowE intE l) l.length from rfl,this]
theorem rel_grow {H:HL} {w:World} (h:Rel H w) (os:Array Obj):Rel H (Go.Sort.grow w os):=⟨λ x hx=>by
  have h1:=h.holds x hx
  show (w.heap++os)[x.1]?=_
  rw [Array.getElem?_append_left (lt_of_heap' h1)]
  exact h1,h.nodup⟩
theorem arr_get (l:List Value) (k:Nat):(⟨l⟩:Array Value)[k]?=l[k]?:=by simp
theorem put_cells (l l2 rest:List Int) (hl:l2.length=l.length):Go.Sort.putCells (Value.int .i64) 0 l2.toArray ⟨(l++rest).map vI⟩=⟨(l2++rest).map vI⟩:=by
  apply Array.ext_getElem?
  intro k
  unfold Go.Sort.putCells
  rw [Array.getElem?_mapIdx]
  rw [arr_get,arr_get,List.getElem?_map,List.getElem?_map]
  by_cases hk:k < l.length
  · rw [List.getElem?_append_left hk,List.getElem?_append_left (by omega),List.getElem?_eq_getElem hk,List.getElem?_eq_getElem (by omega)]
    have h2:0 <= k /\ k < 0+l2.toArray.size:=⟨Nat.zero_le _,by simp;omega⟩
    simp only [Option.map_some,if_pos h2,Nat.sub_zero]
    rw [getElem!_pos l2.toArray k (by simp;omega)]
    simp
  · rw [List.getElem?_append_right (by omega),List.getElem?_append_right (by omega),hl]
    cases rest[k - l.length]? with
    | none=>rfl
    | some y =>
      have h2:¬ (0 <= k /\ k < 0+l2.toArray.size):=by simp;omega
      simp only [Option.map_some,if_neg h2]
theorem rel_put {b c:Nat} {l l2 rest:List Int} {T:TypeId} {F:HL} {w w':World} (hl:l2.length=l.length) (hc:l.length+rest.length=c) (hR:Rel ([(b,.rows 1 c (rowE intE (l++rest)) T (0,0))]++F) w)
    (hw:w'.heap=(Go.Sort.putRow (Value.int .i64) w b 0 l2.toArray).heap):Rel ([(b,.rows 1 c (rowE intE (l2++rest)) T (0,0))]++F) w':=by
  have h0:=hR.holds _ (List.mem_append_left _ (List.mem_singleton.2 rfl))
  simp only at h0
  rw [den_int _ _ (by rw [List.length_append];exact hc)] at h0
  refine hR.upd (p:=0) (b:=b) (bl':=.rows 1 c (rowE intE (l2++rest)) T (0,0)) rfl ?_ ?_
  · rw [hw,den_int _ _ (by rw [List.length_append,hl];exact hc)]
    show (w.heap.modify b _)[b]?=_
    rw [Array.getElem?_modify,if_pos rfl,h0]
    show some (Obj.cells (Go.Sort.putCells (Value.int .i64) 0 l2.toArray ⟨(l++rest).map vI⟩) T (0,0))=_
    rw [put_cells l l2 rest hl]
  · intro k hk
    rw [hw]
    show (w.heap.modify b _)[k]?=_
    rw [Array.getElem?_modify,if_neg (λ e=>hk e.symm)]
theorem holds_int {b c:Nat} {l rest:List Int} {T:TypeId} {F:HL} {w:World} (hc:l.length+rest.length=c) (hR:Rel ([(b,.rows 1 c (rowE intE (l++rest)) T (0,0))]++F) w):Go.Sort.Holds (Value.int .i64) w b 0 l.toArray:=by
  have h0:=hR.holds _ (List.mem_append_left _ (List.mem_singleton.2 rfl))
  simp only at h0
  rw [den_int _ _ (by rw [List.length_append];exact hc)] at h0
  intro j hj
  have hj':j < l.length:=by simpa using hj
  refine ⟨?_,?_⟩
  · unfold World.cell?
    simp only [h0,Nat.zero_add]
    rw [if_neg (by simp),arr_get,List.getElem?_map,List.getElem?_append_left hj',List.getElem?_eq_getElem hj',getElem!_pos l.toArray j hj]
    simp
  · unfold World.frozen?
    simp only [h0]
    simp
theorem sl_mk {b c:Nat} {l rest:List Int} {T:TypeId} (hc:l.length+rest.length=c):SlIs intE T l (some ⟨b,0,none⟩) c [(b,.rows 1 c (rowE intE (l++rest)) T (0,0))] :=
  .inr ⟨b,0,l++rest,by simp,by rw [Nat.zero_add];rfl,by rw [Nat.zero_add,List.length_append];exact hc,by omega,by simp⟩
abbrev srt (l:List Int):List Int:=l.mergeSort λ x y=>decide (x <= y)
theorem srt_len (l:List Int):(srt l).length=l.length:=List.length_mergeSort _
theorem srt_mem {l:List Int} {x:Int}:x ∈ srt l ↔ x ∈ l:=List.mem_mergeSort
theorem sort_any (l:List Int) (A:Option Addr) (c:Nat) (T F:HL) (hs:SlIs intE 3 l A c T) (hz:zeroOff A) (hb:l.length <= 100000000):Sp Tryz.prog 47 #[.slice A l.length c] (ap [] [T]) F (λ u H'=>∃ x:HL,H'=ap [] [x] /\ (u=.tuple #[] /\ SlIs intE 3 (srt l) A c x)):=by
  intro w hR
  by_cases hl:l=[]
  · subst hl
    refine (Tryz.slices_Sort_int_none A c w).mono ?_
    rintro e w' ⟨rfl,rfl⟩
    exact ⟨_,_,rfl,⟨T,rfl,rfl,by simpa [srt] using hs⟩,hR,Below.refl _ _⟩
  · obtain ⟨b,rest,rfl,rfl,hc⟩:=hs.openL hz (by decide) (List.length_pos_iff.2 hl)
    rw [List.length_append] at hc
    have hR1:Rel ([(b,.rows 1 c (rowE intE (l++rest)) 3 (0,0))]++F) w:=by rwa [ap,List.flatten_singleton,List.nil_append] at hR
    have hlt:=hR1.lt (List.mem_append_left _ (List.mem_singleton.2 rfl))
    refine (Tryz.slices_Sort_int b 0 c l w (holds_int hc hR1) hlt (by omega)).mono ?_
    rintro e w' ⟨rfl,n,os,rfl⟩
    refine ⟨_,_,rfl,⟨_,rfl,rfl,sl_mk (l:=srt l) (rest:=rest) (by rw [srt_len];exact hc)⟩,?_,?_⟩
    · have h2:=rel_grow (rel_put (w':=Go.Sort.putRow (Value.int .i64) (Go.Sort.ahead w n) b 0 (srt l).toArray) (srt_len l) hc hR1 rfl) os
      show Rel (([]++[_].flatten)++F) _
      rw [List.flatten_singleton,List.nil_append]
      exact h2
    · exact ⟨rfl,rfl,rfl,by show w.heap.size <= ((w.heap.modify _ _)++os).size;simp,λ k hk=>absurd hk (Nat.not_lt_zero _)⟩
theorem cmp_any (l:List Int) (A:Option Addr) (c:Nat) (T F:HL) (hs:SlIs intE 3 l A c T) (hz:zeroOff A) (hb:l.length <= 100000000):Sp Tryz.prog 48 #[.slice A l.length c] (ap [] [T]) F (λ u H'=>∃ x:HL,H'=ap [] [x] /\ (u=.slice A (Lib.compact l).length c /\ SlIs intE 3 (Lib.compact l) A c x)):=by
  intro w hR
  by_cases hl:l=[]
  · subst hl
    refine (Tryz.slices_Compact_int_empty A c w).mono ?_
    rintro e w' ⟨rfl,rfl⟩
    exact ⟨_,_,rfl,⟨T,rfl,rfl,hs⟩,hR,Below.refl _ _⟩
  · obtain ⟨b,rest,rfl,rfl,hc⟩:=hs.openL hz (by decide) (List.length_pos_iff.2 hl)
    rw [List.length_append] at hc
    have hR1:Rel ([(b,.rows 1 c (rowE intE (l++rest)) 3 (0,0))]++F) w:=by rwa [ap,List.flatten_singleton,List.nil_append] at hR
    have hle:=Lib.compact_length_le l
    refine (Tryz.slices_Compact_int b 0 c l w (holds_int hc hR1) (by omega) (by omega)).mono ?_
    rintro e w' ⟨rfl,q,rfl⟩
    have hl2:(Lib.compact l++List.replicate (l.length - (Lib.compact l).length) 0).length=l.length:=by rw [List.length_append,List.length_replicate];omega
    refine ⟨_,_,rfl,⟨_,rfl,rfl,sl_mk (l:=Lib.compact l) (rest:=List.replicate (l.length - (Lib.compact l).length) 0++rest) (by rw [List.length_append,List.length_replicate];omega)⟩,?_,?_⟩
    · have h2:=rel_put (w':=Go.Sort.putRow (Value.int .i64) (Go.Sort.ahead w q) b 0 (Lib.compact l++List.replicate (l.length - (Lib.compact l).length) 0).toArray) hl2 hc hR1 rfl
      rw [List.append_assoc] at h2
      show Rel (([]++[_].flatten)++F) _
      rw [List.flatten_singleton,List.nil_append]
      exact h2
    · exact ⟨rfl,rfl,rfl,by show w.heap.size <= (w.heap.modify _ _).size;simp,λ k hk=>absurd hk (Nat.not_lt_zero _)⟩
theorem cmp_mem {l:List Int} {x:Int}:x ∈ Lib.compact l ↔ x ∈ l:=by
  unfold Lib.compact Lib.compactUpTo
  rw [List.mem_map]
  constructor
  · rintro ⟨j,hj,rfl⟩
    have h1:=List.mem_range.1 (List.mem_filter.1 hj).1
    rw [getElem!_pos l.toArray j (by simpa using h1)]
    simp
  · intro h
    obtain ⟨j,hj,rfl⟩:=List.getElem_of_mem h
    have key:∀ n j:Nat,j < n -> (hj:j < l.length) -> ∃ a ∈ (List.range l.length).filter (Lib.keeps l.toArray),l.toArray[a]! = l[j]:=by
      intro n
      induction n with
      | zero=>intro j h;omega
      | succ n ih =>
        intro j hn hj
        by_cases h0:l.toArray[j]! ≠ l.toArray[j - 1]! \/ j=0
        · refine ⟨j,List.mem_filter.2 ⟨List.mem_range.2 hj,?_⟩,?_⟩
          · unfold Lib.keeps
            simp only [decide_eq_true_eq]
            exact h0.elim .inr .inl
          · rw [getElem!_pos l.toArray j (by simpa using hj)];simp
        · have h1:l.toArray[j]! = l.toArray[j - 1]!:=by
            by_cases e:l.toArray[j]! = l.toArray[j - 1]!
            · exact e
            · exact absurd (.inl e) h0
          have h2:j ≠ 0:=λ e=>h0 (.inr e)
          obtain ⟨a,ha,hb⟩:=ih (j - 1) (by omega) (by omega)
          refine ⟨a,ha,?_⟩
          rw [getElem!_pos l.toArray j (by simpa using hj),getElem!_pos l.toArray (j - 1) (by simp;omega)] at h1
          rw [hb]
          simpa using h1.symm
    exact key (j+1) j (Nat.lt_succ_self _) hj
end Go.Proofs.YtghjbimijeinfaaGreatDoor
