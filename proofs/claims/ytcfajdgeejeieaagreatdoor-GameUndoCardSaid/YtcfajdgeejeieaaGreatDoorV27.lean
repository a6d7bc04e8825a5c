import Derived.Shelf.SlSortCmp.WholeK
import Derived.Shelf.SlSortCmp.NoneTotal
import Derived.Shelf.SlicesG.Cmp
import Derived.Shelf.Small.Bits
import Derived.Test.YtcfajdgeejeieaaGreatDoorProg
import Derived.Test.YtcfajdgeejeieaaGreatDoorV26
set_option maxHeartbeats 4000000
set_option maxRecDepth 100000
set_option linter.unusedSimpArgs false
set_option linter.unusedVariables false
namespace Go.Proofs.YtcfajdgeejeieaaGreatDoor
end Go.Proofs.YtcfajdgeejeieaaGreatDoor
namespace Go.Proofs
open Go.Shelf
def Tryz.sortE_ren:Go.Shelf.Ren:=⟨λ | 6=>60 | 15=>83 | 14=>90 | 28=>126 | 29=>127 | 20=>130 | 21=>131 | 22=>132 | 23=>133 | 24=>134 | 25=>135 | 26=>136 | 27=>137 | 46=>166 | 47=>167 | 48=>168 | 49=>169 | 50=>170 | 57=>199 | n=>n,λ | 22=>123 | 24=>128 | 25=>130 | 3=>3 | 39=>171 | 0=>0 | 53=>215 | 55=>50 | 4=>4 | 46=>223 | 45=>222 | 50=>227 | 5=>5 | 9=>9 | 66=>258 | 70=>261 | 76=>309 | 77=>310 | n=>n,λ | n=>n⟩
theorem Tryz.sortE:Go.Proofs.SlLaysF0.n6 Tryz.prog Tryz.sortE_ren:={
 mixed:=by kernel_rfl
 f6:=⟨Tryz.f60.name,by decide,Tryz.func60.trans (congrArg some (by kernel_rfl))⟩
 f14:=⟨Tryz.f90.name,by decide,Tryz.func90.trans (congrArg some (by kernel_rfl))⟩
 f15:=Tryz.func83.trans (congrArg some (by kernel_rfl))
 f20:=⟨Tryz.f130.name,by decide,Tryz.func130.trans (congrArg some (by kernel_rfl))⟩
 f21:=⟨Tryz.f131.name,by decide,Tryz.func131.trans (congrArg some (by kernel_rfl))⟩
 f22:=⟨Tryz.f132.name,by decide,Tryz.func132.trans (congrArg some (by kernel_rfl))⟩
 f23:=⟨Tryz.f133.name,by decide,Tryz.func133.trans (congrArg some (by kernel_rfl))⟩
 f24:=⟨Tryz.f134.name,by decide,Tryz.func134.trans (congrArg some (by kernel_rfl))⟩
 f25:=⟨Tryz.f135.name,by decide,Tryz.func135.trans (congrArg some (by kernel_rfl))⟩
 f26:=⟨Tryz.f136.name,by decide,Tryz.func136.trans (congrArg some (by kernel_rfl))⟩
 f27:=⟨Tryz.f137.name,by decide,Tryz.func137.trans (congrArg some (by kernel_rfl))⟩
 f28:=Tryz.func126.trans (congrArg some (by kernel_rfl))
 f29:=Tryz.func127.trans (congrArg some (by kernel_rfl))
 f46:=⟨Tryz.f166.name,by decide,Tryz.func166.trans (congrArg some (by kernel_rfl))⟩
 f47:=Tryz.func167.trans (congrArg some (by kernel_rfl))
 f48:=Tryz.func168.trans (congrArg some (by kernel_rfl))
 f49:=⟨Tryz.f169.name,by decide,Tryz.func169.trans (congrArg some (by kernel_rfl))⟩
 f50:=⟨Tryz.f170.name,by decide,Tryz.func170.trans (congrArg some (by kernel_rfl))⟩
 f57:=⟨Tryz.f199.name,by decide,Tryz.func199.trans (congrArg some (by kernel_rfl))⟩
 t0:=Tryz.underlying0
 a0:=Tryz.isAgg0
 z0:=Tryz.sizeOf0
 v0:=Tryz.zeroValue0
 t3:=Tryz.underlying3
 a3:=Tryz.isAgg3
 z3:=Tryz.sizeOf3
 v3:=Tryz.zeroValue3
 t4:=Tryz.underlying4
 a4:=Tryz.isAgg4
 z4:=Tryz.sizeOf4
 v4:=Tryz.zeroValue4
 t5:=Tryz.underlying5
 a5:=Tryz.isAgg5
 z5:=Tryz.sizeOf5
 v5:=Tryz.zeroValue5
 t9:=Tryz.underlying9
 a9:=Tryz.isAgg9
 z9:=Tryz.sizeOf9
 v9:=Tryz.zeroValue9
 t22:=Tryz.underlying123
 a22:=Tryz.isAgg123
 z22:=Tryz.sizeOf123
 v22:=Tryz.zeroValue123
 t25:=Tryz.underlying130
 a25:=Tryz.isAgg130
 z25:=Tryz.sizeOf130
 v25:=Tryz.zeroValue130
 t39:=Tryz.underlying171
 a39:=Tryz.isAgg171
 z39:=Tryz.sizeOf171
 v39:=Tryz.zeroValue171
 t45:=Tryz.underlying222
 a45:=Tryz.isAgg222
 z45:=Tryz.sizeOf222
 v45:=Tryz.zeroValue222
 t46:=Tryz.underlying223
 a46:=Tryz.isAgg223
 z46:=Tryz.sizeOf223
 v46:=Tryz.zeroValue223
 t50:=Tryz.underlying227
 a50:=Tryz.isAgg227
 z50:=Tryz.sizeOf227
 v50:=Tryz.zeroValue227
 t53:=Tryz.underlying215
 a53:=Tryz.isAgg215
 z53:=Tryz.sizeOf215
 v53:=Tryz.zeroValue215
 t55:=Tryz.underlying50
 a55:=Tryz.isAgg50
 z55:=Tryz.sizeOf50
 v55:=Tryz.zeroValue50
 t66:=Tryz.underlying258
 a66:=Tryz.isAgg258
 z66:=Tryz.sizeOf258
 v66:=Tryz.zeroValue258
 t70:=Tryz.underlying261
 a70:=Tryz.isAgg261
 z70:=Tryz.sizeOf261
 v70:=Tryz.zeroValue261
 t76:=Tryz.underlying309
 a76:=Tryz.isAgg309
 z76:=Tryz.sizeOf309
 v76:=Tryz.zeroValue309
 t77:=Tryz.underlying310
 a77:=Tryz.isAgg310
 z77:=Tryz.sizeOf310
 v77:=Tryz.zeroValue310 }
def Tryz.cmpI_ren:Go.Shelf.Ren:=⟨λ | 5=>62 | 7=>91 | n=>n,λ | 22=>3 | 3=>3 | 4=>4 | n=>n,λ | n=>n⟩
theorem Tryz.cmpI:Go.Proofs.SlLaysC2.n5 Tryz.prog Tryz.cmpI_ren:={
 mixed:=by kernel_rfl
 f5:=⟨Tryz.f62.name,by decide,Tryz.func62.trans (congrArg some (by kernel_rfl))⟩
 f7:=⟨Tryz.f91.name,by decide,Tryz.func91.trans (congrArg some (by kernel_rfl))⟩
 t3:=Tryz.underlying3
 a3:=Tryz.isAgg3
 z3:=Tryz.sizeOf3
 v3:=Tryz.zeroValue3
 t4:=Tryz.underlying4
 a4:=Tryz.isAgg4
 z4:=Tryz.sizeOf4
 v4:=Tryz.zeroValue4
 t22:=Tryz.underlying3
 a22:=Tryz.isAgg3
 z22:=Tryz.sizeOf3
 v22:=Tryz.zeroValue3 }
end Go.Proofs
namespace Go.Proofs.YtcfajdgeejeieaaGreatDoor
open Go.RowKit Go.Shelf Go.Sort
def encT (x:Int × Int):List Value:=[.int .i64 x.1,.int .i64 x.2]
abbrev cfT (x y:Int × Int):Int:=Go.Lib.compareInt x.1 y.1
theorem ltT (x y:Int × Int):ltOf cfT x y=decide (x.1 < y.1):=by
  unfold ltOf cfT Go.Lib.compareInt
  by_cases h1:x.1 < y.1
  · simp [h1]
  · by_cases h2:y.1 < x.1 <;> simp [h1,h2]
theorem swoT:SWO (ltOf cfT):=⟨λ x=>by rw [ltT];simp,λ x y z h1 h2=>by rw [ltT] at *;simp at *;omega,λ x y z h1 h2=>by rw [ltT] at *;simp at *;omega⟩
theorem closT (x y:Int × Int) (W:World):Calls Tryz.prog 61 #[.agg #[.int .i64 x.1,.int .i64 x.2],.agg #[.int .i64 y.1,.int .i64 y.2]] W λ e w'=>e=.returned (.int .i64 (Go.Lib.compareInt x.1 y.1)) /\ ∃ q os',w'=grow (W.drewN q) os':=by
  have hcon:=λ W'=>AnyG.cmp_Compare_int Tryz.cmpI x.1 y.1 W'
  change ∀ W',Calls Tryz.prog 62 _ _ _ at hcon
  generalize Go.Lib.compareInt x.1 y.1=r at hcon ⊢
  go_enter Tryz.func61,Tryz.ntmps61
  go_wp2_with (go_at_call 62;refine (hcon _).mono ?_;rintro e w' ⟨rfl,rfl⟩)
  go_ret
  exact ⟨rfl,0,_,by rw [alloc_eq_grow,alloc_eq_grow,grow_grow];rfl⟩
def srtT (es:List (Int × Int)):List (Int × Int):=(pdq (ltOf cfT) es.toArray 0 es.toArray.size (Go.Lib.bitLen es.toArray.size) true true).toList
theorem srtT_len (es:List (Int × Int)):(srtT es).length=es.length:=by
  have h:=(pdq_sorts (ltOf cfT) swoT es.toArray 0 es.toArray.size (Go.Lib.bitLen es.toArray.size) true true (Nat.zero_le _) (Nat.le_refl _) (Or.inl rfl)).1.1
  unfold srtT
  rw [Array.length_toList,h]
  simp
theorem flatEnt_at (es:List (Int × Int)) {i k:Nat} (hi:i < es.length) (hk:k < 2):(flatK encT 2 es.toArray)[i * 2+k]! = rowE entE es i k:=by
  rw [get_flatK _ _ _ _ (by simp;omega),show (i * 2+k) / 2=i by omega,show (i * 2+k) % 2=k by omega,getElem!_pos es.toArray i (by simpa using hi)]
  unfold rowE
  rw [List.getD_eq_getElem?_getD,List.getElem?_eq_getElem hi]
  rcases k with _ | _ | k
  · simp [encT,entE]
  · simp [encT,entE]
  · omega
theorem holdsEnt {b c:Nat} {es:List (Int × Int)} {F:HL} {w:World} (hc:es.length <= c) (hR:Rel ([(b,.rows 2 c (rowE entE es) 128 (0,0))]++F) w):HoldsK encT 2 w b 0 es.toArray:=by
  have h0:=hR.holds _ (List.mem_append_left _ (List.mem_singleton.2 rfl))
  simp only at h0
  intro j hj
  rw [size_flatK] at hj
  have hj2:j < es.length * 2:=by simpa using hj
  have e:j=j / 2 * 2+j % 2:=by omega
  refine ⟨?_,frozen_of h0 rfl rfl⟩
  rw [cell_rows (i:=j / 2) (k:=j % 2) h0 rfl rfl (by rw [Nat.zero_add];exact e) (by omega) (by omega)]
  rw [e,flatEnt_at es (by omega) (by omega)]
  rw [show (j / 2 * 2+j % 2) / 2=j / 2 by omega,show (j / 2 * 2+j % 2) % 2=j % 2 by omega]
  rfl
theorem putEnt {c:Nat} {es e2:List (Int × Int)} (hl:e2.length=es.length) (hc:es.length <= c):putCells id 0 (flatK encT 2 e2.toArray) ⟨rowsOf 2 (rowE entE es) c⟩=⟨rowsOf 2 (rowE entE e2) c⟩:=by
  refine Array.ext' ?_
  symm
  refine rowsOf_ext (by unfold putCells;simp [rowsOf_length]) λ i k hi hk=>?_
  unfold putCells
  rw [Array.getElem?_toList,Array.getElem?_mapIdx]
  have h1:(⟨rowsOf 2 (rowE entE es) c⟩:Array Value)[i * 2+k]?=some (rowE entE es i k):=by
    show (rowsOf 2 (rowE entE es) c).toArray[i * 2+k]?=_
    rw [List.getElem?_toArray]
    exact rowsOf_get hi hk
  rw [h1]
  simp only [Option.map_some,size_flatK,Nat.sub_zero]
  by_cases h:i < e2.length
  · rw [if_pos ⟨Nat.zero_le _,by simp;omega⟩,flatEnt_at e2 h hk]
    rfl
  · rw [if_neg (by simp;omega)]
    unfold rowE
    rw [List.getD_eq_getElem?_getD,List.getD_eq_getElem?_getD,List.getElem?_eq_none (by omega),List.getElem?_eq_none (by omega)]
theorem sortT_any (es:List (Int × Int)) (A:Option Addr) (c:Nat) (T F:HL) (hs:ClS entE 128 es A c T) (hb:es.length <= 100000000):Sp Tryz.prog 60 #[.slice A es.length c,.func (.func 61) #[] #[]] (ap [] [T]) F (λ u H'=>∃ x:HL,H'=ap [] [x] /\ (u=.tuple #[] /\ ClS entE 128 (srtT es) A c x)):=by
  intro w hR
  obtain ⟨A0,hs⟩:=hs
  rcases hs with ⟨rfl,rfl,rfl,rfl⟩ | ⟨b,rfl,rfl,hc⟩
  · refine (AnyF.slices_SortFunc_none { Tryz.sortE with } A 0 (.func (.func 61) #[] #[]) w).mono ?_
    rintro e w' ⟨rfl,rfl⟩
    exact ⟨_,_,rfl,⟨[],rfl,rfl,by rw [show srtT []=[] from List.eq_nil_of_length_eq_zero (srtT_len [])];exact .nil _ _ _⟩,hR,Below.refl _ _⟩
  · have hR1:Rel ([(b,.rows 2 c (rowE entE es) 128 (0,0))]++F) w:=by rwa [ap,List.flatten_singleton,List.nil_append] at hR
    have h0:=hR1.holds _ (List.mem_append_left _ (List.mem_singleton.2 rfl))
    have hlt:=hR1.lt (List.mem_append_left _ (List.mem_singleton.2 rfl))
    have eg:∀ args w,(callFunc 61 args).run Tryz.prog w=.ok (.enter 61 args) w:=enters_of Tryz.func61 (by kernel_rfl) rfl
    have hcon:=AnyQ.slices_SortFunc_eq Tryz.sortE 2 Tryz.isAgg128 Tryz.sizeOf128 encT (λ _=>rfl) (λ x v hv=>by simp [encT] at hv;rcases hv with rfl | rfl <;> rfl) cfT swoT 61 #[] b 0 c es.toArray w eg (λ _ _ _ _ x y=>closT x y _) (holdsEnt hc hR1) hlt (by simp;omega)
    have hcon2:Calls Tryz.prog 60 #[.slice (some ⟨b,0,none⟩) es.length c,.func (.func 61) #[] #[]] w λ e w'=>e=.returned (.tuple #[]) /\ ∃ n os,w'=sortWorldK encT 2 w b 0 n (srtT es).toArray os:=by
      have e1:(srtT es).toArray=pdq (ltOf cfT) es.toArray 0 es.toArray.size (Go.Lib.bitLen es.toArray.size) true true:=by unfold srtT;simp
      rw [e1]
      exact hcon
    refine hcon2.mono ?_
    rintro e w' ⟨rfl,n,os,rfl⟩
    have hl:=srtT_len es
    refine ⟨_,_,rfl,⟨_,rfl,rfl,some ⟨b,0,none⟩,.inr ⟨b,rfl,rfl,by omega⟩⟩,?_,?_⟩
    · have h2:Rel ([(b,.rows 2 c (rowE entE (srtT es)) 128 (0,0))]++F) (putRowK encT 2 (Go.Sort.ahead w n) b 0 (srtT es).toArray):=by
        refine hR1.upd (p:=0) (b:=b) (bl':=.rows 2 c (rowE entE (srtT es)) 128 (0,0)) rfl ?_ ?_
        · show (w.heap.modify b _)[b]?=_
          rw [Array.getElem?_modify,if_pos rfl,h0]
          show some (Obj.cells (putCells id 0 (flatK encT 2 (srtT es).toArray) ⟨rowsOf 2 (rowE entE es) c⟩) _ (0,0))=_
          rw [putEnt hl hc]
          rfl
        · intro k hk
          show (w.heap.modify b _)[k]?=_
          rw [Array.getElem?_modify,if_neg (λ e=>hk e.symm)]
      have h3:Rel ([(b,.rows 2 c (rowE entE (srtT es)) 128 (0,0))]++F) (grow (putRowK encT 2 (Go.Sort.ahead w n) b 0 (srtT es).toArray) os):=⟨λ x hx=>by
        have h1:=h2.holds x hx
        show ((putRowK encT 2 (Go.Sort.ahead w n) b 0 (srtT es).toArray).heap++os)[x.1]?=_
        rw [Array.getElem?_append_left (lt_of_heap' h1)]
        exact h1,h2.nodup⟩
      show Rel (([]++[_].flatten)++F) _
      rw [List.flatten_singleton,List.nil_append]
      exact h3
    · exact ⟨rfl,rfl,rfl,by show w.heap.size <= ((w.heap.modify _ _)++os).size;simp,λ k hk=>absurd hk (Nat.not_lt_zero _)⟩
def winP (lo hi:Int) (ns:List Int):Prop:=∀ k,k < ns.length -> lo <= ns.getD k 0 /\ ns.getD k 0 <= hi
instance (lo hi:Int) (ns:List Int):Decidable (winP lo hi ns):=inferInstanceAs (Decidable (∀ k,k < ns.length -> _))
theorem winP_nil (lo hi:Int):winP lo hi []:=λ k hk=>absurd hk (Nat.not_lt_zero _)
theorem winP_cons {lo hi x:Int} {ns:List Int}:winP lo hi (x :: ns) ↔ (lo <= x /\ x <= hi) /\ winP lo hi ns:=by
 constructor
 ·intro h
  exact ⟨h 0 (Nat.succ_pos _),λ k hk=>h (k+1) (Nat.succ_lt_succ hk)⟩
 ·rintro ⟨h1,h2⟩ k hk
  cases k with
  | zero=>exact h1
  | succ k=>exact h2 k (Nat.lt_of_succ_lt_succ hk)
theorem win_any (lo hi:Int) (ns:List Int) (q:Nat) (F:HL) (hq:(q,.rows 1 ns.length (irow ns) 3 (0,0)) ∈ F) (hn:ns.length <= 1000000):Sp Tryz.prog 141 #[vI lo,vI hi,vS q 0 ns.length ns.length] [] F (λ u H'=>u=.bool (decide (winP lo hi ns)) /\ H'=[]):=by
 refine Sp.run Tryz.func141 rfl (mc hq mn) (A:=[]) (Ts:=[]) rfl λ w0=>?_
 refine RN.go 14 [] λ _=>RN.loop (σ:=Nat) (λ k=>⟨[(0,vI lo),(1,vI hi),(9,vS q 0 ns.length ns.length),(10,vI (ns.length:Int)),(11,vI (k:Int))],[],[],k <= ns.length /\ ∀ t,t < k -> lo <= ns.getD t 0 /\ ns.getD t 0 <= hi,ns.length - k⟩) 0 [] [] (⟨Nat.zero_le _,λ t ht=>absurd ht (Nat.not_lt_zero _)⟩) ?_
 rintro k ⟨hkl,hwk⟩ mt2
 refine RN.go 6 [] λ _=>RN.em ((k:Int) < (ns.length:Int)) 12 (λ h3=>?_) λ h3=>?_
 ·refine RN.goP 18 [.ix k,.rorow 0 k 0] [(0+k * 1)=k * 1+0 /\ k < ns.length,(k:Int)=((k:Nat):Int) /\ k < ns.length] λ _=>RN.em (ns.getD k 0 < lo) 18 (λ h4=>?_) λ h4=>?_
  ·refine RN.go 12 [] λ _=>RN.ret [] [] [] (v:=.bool false) (H':=[]) ?_
   exact ⟨by rw [decide_eq_false (show ¬ winP lo hi ns from λ h_=>by have:=h_ k (by omega);omega)],rfl⟩
  ·refine RN.go 6 [] λ _=>RN.em (ns.getD k 0 > hi) 22 (λ h5=>?_) λ h5=>?_
   ·refine RN.go 6 [] λ _=>RN.ret [] [] [] (v:=.bool false) (H':=[]) ?_
    exact ⟨by rw [decide_eq_false (show ¬ winP lo hi ns from λ h_=>by have:=h_ k (by omega);omega)],rfl⟩
   ·refine RN.goP 8 [.nw] [I64 ((k:Int)+1)] λ _=>?_
    refine mt2 (k+1) [] [] ?_
    try dsimp only
    refine ⟨⟨by omega,λ t ht=>?_⟩,by omega⟩
    rcases Nat.lt_or_ge t k with h_ | h_
    ·exact hwk t h_
    ·obtain rfl:t=k:=by omega
     exact ⟨by omega,by omega⟩
 ·refine RN.go 11 [] λ _=>RN.ret [] [] [] (v:=.bool true) (H':=[]) ?_
  exact ⟨by rw [decide_eq_true (show winP lo hi ns from λ t ht=>hwk t (by omega))],rfl⟩
def properP (b:Bx):Prop:=(b.x0 <= b.x1 /\ b.y0 <= b.y1) /\ winP (-1048576) 1048576 [b.x0,b.y0,b.x1,b.y1]
instance (b:Bx):Decidable (properP b):=inferInstanceAs (Decidable (_ /\ _))
def vbodyP (b:Bod) (x:Bx):Prop:=winP 0 4096 [b.mot.inv] /\ winP (-16384) 16384 [b.mot.vx,b.mot.vy] /\ winP x.x0 x.x1 [b.mot.px] /\ winP x.y0 x.y1 [b.mot.py] /\ winP (-2147483647) 2147483647 [b.a,b.b]
instance (b:Bod) (x:Bx):Decidable (vbodyP b x):=inferInstanceAs (Decidable (_ /\ _))
def vnumP (S:Setup):Prop:=winP 1 8 [S.players] /\ winP S.players 24 [(S.nb:Int)] /\ winP 0 4194304 [S.fog] /\ winP (-16384) 16384 [S.g.x,S.g.y] /\ winP 0 16384 [S.push] /\ winP 0 1024 [S.drag,S.rest] /\ winP 1 4 [S.rounds] /\ winP 0 1000 [S.fuel]
instance (S:Setup):Decidable (vnumP S):=inferInstanceAs (Decidable (_ /\ _))
theorem proper_any (b:Bx)  (F:HL):Sp Tryz.prog 101 #[.agg #[vI b.x0,vI b.y0,vI b.x1,vI b.y1]] [] F (λ u H'=>u=.bool (decide (properP b)) /\ H'=[]):=by
 refine Sp.run Tryz.func101 rfl mn (A:=[]) (Ts:=[]) rfl λ w0=>?_
 refine RN.go 14 [.own 0,.own 0] λ n1=>RN.em (b.x0 <= b.x1) 8 (λ h2=>?_) λ h2=>?_
 ·refine RN.go 7 [.own 0,.own 0] λ _=>RN.em (b.y0 <= b.y1) 15 (λ h3=>?_) λ h3=>?_
  ·refine RN.go 9 [.own 0,.own 0,.own 0,.own 0] λ n4=>RN.dn 0 (.rows 1 4 (irow [b.x0,b.y0,b.x1,b.y1]) 3 (0,0))<|RN.cp (win_any (-1048576) 1048576 [b.x0,b.y0,b.x1,b.y1] (n4+0) _ (in_ap 0) (Nat.le_of_ble_eq_true rfl))<|RN.go 4 [] λ _=>RN.ret [] [] [] (v:=.bool (decide (winP (-1048576) 1048576 [b.x0,b.y0,b.x1,b.y1]))) (H':=[]) ?_
   exact ⟨by simp [properP, *],rfl⟩
  ·refine RN.go 14 [] λ _=>RN.ret [] [] [] (v:=.bool false) (H':=[]) ?_
   exact ⟨by simp [properP, *],rfl⟩
 ·refine RN.go 21 [] λ _=>RN.ret [] [] [] (v:=.bool false) (H':=[]) ?_
  exact ⟨by simp [properP, *],rfl⟩
theorem vbody_any (b:Bod) (x:Bx) (F:HL):Sp Tryz.prog 103 #[.agg #[vI b.sh.r,.slice b.sh.A b.sh.poly.length b.sh.cap,vI b.mot.px,vI b.mot.py,vI b.mot.vx,vI b.mot.vy,vI b.mot.inv,vI b.a,vI b.b],.agg #[vI x.x0,vI x.y0,vI x.x1,vI x.y1]] [] F (λ u H'=>u=.bool (decide (vbodyP b x)) /\ H'=[]):=by
 refine Sp.run Tryz.func103 rfl mn (A:=[]) (Ts:=[]) rfl λ w0=>?_
 refine RN.go 20 (ow 1 5++ow 0 6) λ n1=>RN.dn 0 (.rows 1 1 (irow [b.mot.inv]) 3 (0,0))<|RN.cp (win_any 0 4096 [b.mot.inv] (n1+3) _ (in_ap 0) (Nat.le_of_ble_eq_true rfl))<|RN.go 1 [] λ _=>RN.em (winP 0 4096 [b.mot.inv]) 12 (λ h2=>?_) λ h2=>?_
 ·refine RN.go 7 [.own 1,.own 1] λ n3=>RN.dn 0 (.rows 1 2 (irow [b.mot.vx,b.mot.vy]) 3 (0,0))<|RN.cp (win_any (-16384) 16384 [b.mot.vx,b.mot.vy] (n3+0) _ (in_ap 0) (Nat.le_of_ble_eq_true rfl))<|RN.go 2 [] λ _=>RN.em (winP (-16384) 16384 [b.mot.vx,b.mot.vy]) 22 (λ h4=>?_) λ h4=>?_
  ·refine RN.go 8 [.own 3,.own 3,.own 2] λ n5=>RN.dn 0 (.rows 1 1 (irow [b.mot.px]) 3 (0,0))<|RN.cp (win_any x.x0 x.x1 [b.mot.px] (n5+0) _ (in_ap 0) (Nat.le_of_ble_eq_true rfl))<|RN.go 2 [] λ _=>RN.em (winP x.x0 x.x1 [b.mot.px]) 33 (λ h6=>?_) λ h6=>?_
   ·refine RN.go 8 [.own 4,.own 4,.own 3] λ n7=>RN.dn 0 (.rows 1 1 (irow [b.mot.py]) 3 (0,0))<|RN.cp (win_any x.y0 x.y1 [b.mot.py] (n7+0) _ (in_ap 0) (Nat.le_of_ble_eq_true rfl))<|RN.go 2 [] λ _=>RN.em (winP x.y0 x.y1 [b.mot.py]) 44 (λ h8=>?_) λ h8=>?_
    ·refine RN.go 5 [.own 6,.own 6] λ n9=>RN.dn 0 (.rows 1 2 (irow [b.a,b.b]) 3 (0,0))<|RN.cp (win_any (-2147483647) 2147483647 [b.a,b.b] (n9+0) _ (in_ap 0) (Nat.le_of_ble_eq_true rfl))<|RN.go 4 [] λ _=>RN.ret [] [] [] (v:=.bool (decide (winP (-2147483647) 2147483647 [b.a,b.b]))) (H':=[]) ?_
     exact ⟨by simp [vbodyP, *],rfl⟩
    ·refine RN.go 10 [] λ _=>RN.ret [] [] [] (v:=.bool false) (H':=[]) ?_
     exact ⟨by simp [vbodyP, *],rfl⟩
   ·refine RN.go 21 [] λ _=>RN.ret [] [] [] (v:=.bool false) (H':=[]) ?_
    exact ⟨by simp [vbodyP, *],rfl⟩
  ·refine RN.go 32 [] λ _=>RN.ret [] [] [] (v:=.bool false) (H':=[]) ?_
   exact ⟨by simp [vbodyP, *],rfl⟩
 ·refine RN.go 42 [] λ _=>RN.ret [] [] [] (v:=.bool false) (H':=[]) ?_
  exact ⟨by simp [vbodyP, *],rfl⟩
theorem vnum_any (S:Setup) (F:HL):Sp Tryz.prog 100 #[(Setup.v S)] [] F (λ u H'=>u=.bool (decide (vnumP S)) /\ H'=[]):=by
 refine Sp.run Tryz.func100 rfl mn (A:=[]) (Ts:=[]) rfl λ w0=>?_
 refine RN.go 11 [.own 0] λ n1=>RN.dn 0 (.rows 1 1 (irow [S.players]) 3 (0,0))<|RN.cp (win_any 1 8 [S.players] (n1+1) _ (in_ap 0) (Nat.le_of_ble_eq_true rfl))<|RN.go 1 [] λ _=>RN.em (winP 1 8 [S.players]) 7 (λ h2=>?_) λ h2=>?_
 ·refine RN.go 6 [.own 1,.own 1] λ n3=>RN.dn 0 (.rows 1 1 (irow [(S.nb:Int)]) 3 (0,0))<|RN.cp (win_any S.players 24 [(S.nb:Int)] (n3+0) _ (in_ap 0) (Nat.le_of_ble_eq_true rfl))<|RN.go 2 [] λ _=>RN.em (winP S.players 24 [(S.nb:Int)]) 16 (λ h4=>?_) λ h4=>?_
  ·refine RN.go 3 [.own 2] λ n5=>RN.dn 0 (.rows 1 1 (irow [S.fog]) 3 (0,0))<|RN.cp (win_any 0 4194304 [S.fog] (n5+0) _ (in_ap 0) (Nat.le_of_ble_eq_true rfl))<|RN.go 2 [] λ _=>RN.em (winP 0 4194304 [S.fog]) 22 (λ h6=>?_) λ h6=>?_
   ·refine RN.go 7 [.own 3,.own 3] λ n7=>RN.dn 0 (.rows 1 2 (irow [S.g.x,S.g.y]) 3 (0,0))<|RN.cp (win_any (-16384) 16384 [S.g.x,S.g.y] (n7+0) _ (in_ap 0) (Nat.le_of_ble_eq_true rfl))<|RN.go 2 [] λ _=>RN.em (winP (-16384) 16384 [S.g.x,S.g.y]) 32 (λ h8=>?_) λ h8=>?_
    ·refine RN.go 3 [.own 4] λ n9=>RN.dn 0 (.rows 1 1 (irow [S.push]) 3 (0,0))<|RN.cp (win_any 0 16384 [S.push] (n9+0) _ (in_ap 0) (Nat.le_of_ble_eq_true rfl))<|RN.go 2 [] λ _=>RN.em (winP 0 16384 [S.push]) 38 (λ h10=>?_) λ h10=>?_
     ·refine RN.go 5 [.own 5,.own 5] λ n11=>RN.dn 0 (.rows 1 2 (irow [S.drag,S.rest]) 3 (0,0))<|RN.cp (win_any 0 1024 [S.drag,S.rest] (n11+0) _ (in_ap 0) (Nat.le_of_ble_eq_true rfl))<|RN.go 2 [] λ _=>RN.em (winP 0 1024 [S.drag,S.rest]) 46 (λ h12=>?_) λ h12=>?_
      ·refine RN.go 3 [.own 6] λ n13=>RN.dn 0 (.rows 1 1 (irow [S.rounds]) 3 (0,0))<|RN.cp (win_any 1 4 [S.rounds] (n13+0) _ (in_ap 0) (Nat.le_of_ble_eq_true rfl))<|RN.go 2 [] λ _=>RN.em (winP 1 4 [S.rounds]) 52 (λ h14=>?_) λ h14=>?_
       ·refine RN.go 3 [.own 7] λ n15=>RN.dn 0 (.rows 1 1 (irow [S.fuel]) 3 (0,0))<|RN.cp (win_any 0 1000 [S.fuel] (n15+0) _ (in_ap 0) (Nat.le_of_ble_eq_true rfl))<|RN.go 4 [] λ _=>RN.ret [] [] [] (v:=.bool (decide (winP 0 1000 [S.fuel]))) (H':=[]) ?_
        exact ⟨by simp [vnumP, *],rfl⟩
       ·refine RN.go 8 [] λ _=>RN.ret [] [] [] (v:=.bool false) (H':=[]) ?_
        exact ⟨by simp [vnumP, *],rfl⟩
      ·refine RN.go 14 [] λ _=>RN.ret [] [] [] (v:=.bool false) (H':=[]) ?_
       exact ⟨by simp [vnumP, *],rfl⟩
     ·refine RN.go 22 [] λ _=>RN.ret [] [] [] (v:=.bool false) (H':=[]) ?_
      exact ⟨by simp [vnumP, *],rfl⟩
    ·refine RN.go 28 [] λ _=>RN.ret [] [] [] (v:=.bool false) (H':=[]) ?_
     exact ⟨by simp [vnumP, *],rfl⟩
   ·refine RN.go 38 [] λ _=>RN.ret [] [] [] (v:=.bool false) (H':=[]) ?_
    exact ⟨by simp [vnumP, *],rfl⟩
  ·refine RN.go 44 [] λ _=>RN.ret [] [] [] (v:=.bool false) (H':=[]) ?_
   exact ⟨by simp [vnumP, *],rfl⟩
 ·refine RN.go 53 [] λ _=>RN.ret [] [] [] (v:=.bool false) (H':=[]) ?_
  exact ⟨by simp [vnumP, *],rfl⟩
def vdoorP (n:Nat) (d:Dr):Prop:=winP 0 ((n:Int) - 1) [d.a,d.b] /\ ¬ d.a=d.b
instance (n:Nat) (d:Dr):Decidable (vdoorP n d):=inferInstanceAs (Decidable (_ /\ _))
def vmapP (S:Setup) (rs:List Bx) (ds:List Dr):Prop:=((S.rn:Int) <= 8 /\ (S.dn:Int) <= 16) /\ (∀ k,k < S.rn -> properP (rs.getD k bxE.dflt)) /\ ∀ k,k < S.dn -> vdoorP S.rn (ds.getD k drE.dflt)
instance (S:Setup) (rs:List Bx) (ds:List Dr):Decidable (vmapP S rs ds):=inferInstanceAs (Decidable (_ /\ _ /\ _))
theorem vmap_any (S:Setup) (rs:List Bx) (ds:List Dr) (F:HL) (hM:MapIn F S rs ds):Sp Tryz.prog 102 #[(Setup.v S)] [] F (λ u H'=>u=.bool (decide (vmapP S rs ds)) /\ H'=[]):=by
 refine Sp.run Tryz.func102 rfl mn (A:=[]) (Ts:=[]) rfl λ w0=>?_
 refine RN.go 14 [.own 0] λ n1=>RN.em ((S.rn:Int) > 8) 11 (λ h2=>?_) λ h2=>?_
 ·refine RN.go 13 [] λ _=>RN.ret [] [] [] (v:=.bool false) (H':=[]) ?_
  exact ⟨by rw [decide_eq_false (show ¬ vmapP S rs ds from λ h_=>by have:=h_.1;omega)],rfl⟩
 ·refine RN.go 7 [.own 0] λ _=>RN.em ((S.dn:Int) > 16) 16 (λ h3=>?_) λ h3=>?_
  ·refine RN.go 6 [] λ _=>RN.ret [] [] [] (v:=.bool false) (H':=[]) ?_
   exact ⟨by rw [decide_eq_false (show ¬ vmapP S rs ds from λ h_=>by have:=h_.1;omega)],rfl⟩
  ·refine RN.go 13 [.own 0] λ _=>RN.loop (σ:=Nat) (λ k=>⟨[(1,vP (n1+0) 0),(18,.slice S.rA S.rn S.rc),(19,vI (S.rn:Int)),(20,vI (k:Int))],[((n1+0),.lit (Setup.l S) 31 (0,0))],[],k <= S.rn /\ ∀ t,t < k -> properP (rs.getD t bxE.dflt),S.rn - k⟩) 0 [0] [] (⟨Nat.zero_le _,λ t ht=>absurd ht (Nat.not_lt_zero _)⟩) ?_
   rintro k ⟨hkl,hr1⟩ mt5
   refine RN.go 6 [] λ _=>RN.em ((k:Int) < (S.rn:Int)) 21 (λ h6=>?_) λ h6=>?_
   ·refine RN.go 7 [] λ _=>?_
    obtain ⟨qx7,ox7,Nx7,fx7,fzx7,hAx7,hqx7,hox7,hgx7⟩:=hM.rooms.at (k:=k) (by omega)
    refine RN.sv 18 (congrArg (λ v_=>(.slice v_ S.rn S.rc:Value)) hAx7)<|RN.ro (λ _=>(mc hqx7 mn))<|RN.goP 2 [.ix k,.rorow 0 (ox7+k) 0,.rorow 0 (ox7+k) 1,.rorow 0 (ox7+k) 2,.rorow 0 (ox7+k) 3] [((ox7 * 4+k * 4)+3)=(ox7+k) * 4+3 /\ (ox7+k) < Nx7,((ox7 * 4+k * 4)+2)=(ox7+k) * 4+2 /\ (ox7+k) < Nx7,((ox7 * 4+k * 4)+1)=(ox7+k) * 4+1 /\ (ox7+k) < Nx7,(ox7 * 4+k * 4)=(ox7+k) * 4+0 /\ (ox7+k) < Nx7,(k:Int)=((k:Nat):Int) /\ k < S.rn] λ _=>RN.sv 23 (congrArg (λ v_=>(.agg #[vI v_.x0,vI v_.y0,vI v_.x1,vI v_.y1]:Value)) hgx7)<|RN.go 7 (ow 0 8) λ n8=>RN.cp (proper_any (rs.getD k bxE.dflt)  _)<|RN.go 3 [] λ _=>RN.en (properP (rs.getD k bxE.dflt)) 26 (λ h9=>?_) λ h9=>?_
    ·refine RN.goP 8 [.nw] [I64 ((k:Int)+1)] λ _=>RN.sv 18 (congrArg (λ v_=>(.slice v_ S.rn S.rc:Value)) hAx7.symm) ?_
     refine mt5 (k+1) [1] [] ?_
     try dsimp only
     refine ⟨⟨by omega,λ t ht=>?_⟩,by omega⟩
     rcases Nat.lt_or_ge t k with h_ | h_
     ·exact hr1 t h_
     ·obtain rfl:t=k:=by omega
      exact h9
    ·refine RN.go 6 [] λ _=>RN.ret [] [] [] (v:=.bool false) (H':=[]) ?_
     exact ⟨by rw [decide_eq_false (show ¬ vmapP S rs ds from λ h_=>h9 (h_.2.1 k (by omega)))],rfl⟩
   ·refine RN.go 16 [.own 0] λ _=>RN.loop (σ:=Nat) (λ j=>⟨[(1,vP (n1+0) 0),(29,.slice S.dA S.dn S.dc),(30,vI (S.dn:Int)),(31,vI (j:Int))],[((n1+0),.lit (Setup.l S) 31 (0,0))],[],j <= S.dn /\ ∀ t,t < j -> vdoorP S.rn (ds.getD t drE.dflt),S.dn - j⟩) 0 [0] [] (⟨Nat.zero_le _,λ t ht=>absurd ht (Nat.not_lt_zero _)⟩) ?_
    rintro j ⟨hjl,hd1⟩ mt11
    refine RN.go 6 [] λ _=>RN.em ((j:Int) < (S.dn:Int)) 32 (λ h12=>?_) λ h12=>?_
    ·refine RN.go 7 [] λ _=>?_
     obtain ⟨qx13,ox13,Nx13,fx13,fzx13,hAx13,hqx13,hox13,hgx13⟩:=hM.doors.at (k:=j) (by omega)
     refine RN.sv 29 (congrArg (λ v_=>(.slice v_ S.dn S.dc:Value)) hAx13)<|RN.ro (λ _=>(mc hqx13 mn))<|RN.goP 2 [.ix j,.rorow 0 (ox13+j) 0,.rorow 0 (ox13+j) 1] [((ox13 * 2+j * 2)+1)=(ox13+j) * 2+1 /\ (ox13+j) < Nx13,(ox13 * 2+j * 2)=(ox13+j) * 2+0 /\ (ox13+j) < Nx13,(j:Int)=((j:Nat):Int) /\ j < S.dn] λ _=>RN.sv 34 (congrArg (λ v_=>(.agg #[vI v_.a,vI v_.b]:Value)) hgx13)<|RN.goP 15 [.own 0,.own 0,.own 1,.nw,.own 0,.own 0] [I64 ((S.rn:Int) - 1)] λ n14=>RN.dn 0 (.rows 1 2 (irow [(ds.getD j drE.dflt).a,(ds.getD j drE.dflt).b]) 3 (0,0))<|RN.cp (win_any 0 ((S.rn:Int) - 1) [(ds.getD j drE.dflt).a,(ds.getD j drE.dflt).b] (n14+1) _ (in_ap 0) (Nat.le_of_ble_eq_true rfl))<|RN.go 2 [] λ _=>RN.en (winP 0 ((S.rn:Int) - 1) [(ds.getD j drE.dflt).a,(ds.getD j drE.dflt).b]) 46 (λ h15=>?_) λ h15=>?_
     ·refine RN.go 8 [.own 1,.own 1] λ _=>RN.em ((ds.getD j drE.dflt).a=(ds.getD j drE.dflt).b) 52 (λ h16=>?_) λ h16=>?_
      ·refine RN.go 6 [] λ _=>RN.ret [] [] [] (v:=.bool false) (H':=[]) ?_
       exact ⟨by rw [decide_eq_false (show ¬ vmapP S rs ds from λ h_=>(h_.2.2 j (by omega)).2 h16)],rfl⟩
      ·refine RN.goP 8 [.nw] [I64 ((j:Int)+1)] λ _=>RN.sv 29 (congrArg (λ v_=>(.slice v_ S.dn S.dc:Value)) hAx13.symm) ?_
       refine mt11 (j+1) [2] [] ?_
       try dsimp only
       refine ⟨⟨by omega,λ t ht=>?_⟩,by omega⟩
       rcases Nat.lt_or_ge t j with h_ | h_
       ·exact hd1 t h_
       ·obtain rfl:t=j:=by omega
        exact ⟨h15,h16⟩
     ·refine RN.go 14 [] λ _=>RN.ret [] [] [] (v:=.bool false) (H':=[]) ?_
      exact ⟨by rw [decide_eq_false (show ¬ vmapP S rs ds from λ h_=>h15 (h_.2.2 j (by omega)).1)],rfl⟩
    ·refine RN.go 11 [] λ _=>RN.ret [] [] [] (v:=.bool true) (H':=[]) ?_
     exact ⟨by rw [decide_eq_true (show vmapP S rs ds from ⟨⟨by omega,by omega⟩,λ t ht=>hr1 t (by omega),λ t ht=>hd1 t (by omega)⟩)],rfl⟩
end Go.Proofs.YtcfajdgeejeieaaGreatDoor
