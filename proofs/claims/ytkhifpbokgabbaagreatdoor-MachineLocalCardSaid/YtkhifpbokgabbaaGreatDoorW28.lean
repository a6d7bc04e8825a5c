import Derived.Test.YtkhifpbokgabbaaGreatDoorW27
import Derived.Shelf.Small.Bits
import Derived.Shelf.Strconv.Itoa0
import Derived.Shelf.Sort.Plain
import Derived.Ground.Names2Prog
import Derived.Shelf.Slices.CompactI
import Derived.Shelf.Slices.In.SortNone
import Derived.Test.YtkhifpbokgabbaaGreatDoorProg
import Derived.Lib.RowBridge
set_option maxHeartbeats 4000000
set_option maxRecDepth 100000
set_option linter.unusedSimpArgs false
set_option linter.unusedVariables false
namespace Go.Proofs.YtkhifpbokgabbaaGreatDoor
open Go.RowKit
def rg (lo:Int) (n:Nat):List Int:=(List.range n).map λ k:Nat=>lo+(k:Int)
theorem rg_succ (lo:Int) (n:Nat):rg lo (n+1)=rg lo n++[lo+(n:Int)]:=by simp [rg,List.range_succ]
theorem rg_len (lo:Int) (n:Nat):(rg lo n).length=n:=by simp [rg]
theorem rg_mem {lo y:Int} {n:Nat}:y ∈ rg lo n ↔ lo <= y /\ y < lo+(n:Int):=by
 unfold rg
 rw [List.mem_map]
 constructor
 ·rintro ⟨k,hk,rfl⟩;have:=List.mem_range.1 hk;omega
 ·intro h;exact ⟨(y - lo).toNat,List.mem_range.2 (by omega),by omega⟩
theorem span_any (l:List Int) (A:Option Addr) (c:Nat) (T:HL) (lo:Int) (n:Nat) (F:HL) (hs:SlIs intE 3 l A c T) (hz:zeroOff A) (hl:l.length <= 100000) (hlo:-1000000000 <= lo /\ lo <= 2000000000) (hn:n <= 1000):Sp Tryz.prog 19 #[.slice A l.length c,vI lo,vI (lo+(n:Int))] (ap [] [T]) F (λ u H'=>∃ x:List Int × Option Addr × Nat × HL,H'=ap [] [x.2.2.2] /\ (u=.slice x.2.1 x.1.length x.2.2.1 /\ SlIs intE 3 x.1 x.2.1 x.2.2.1 x.2.2.2 /\ zeroOff x.2.1 /\ x.1=l++rg lo n)):=by
 refine Sp.run Tryz.func19 rfl mn (A:=[]) (Ts:=[T]) rfl λ w0=>?_
 refine RN.go 13 [] λ _=>RN.loop (σ:=Nat × Int × Option Addr × Nat × HL) (λ ⟨k,q,A_,c_,T_⟩=>⟨[(0,.slice A_ (l.length+k) c_),(2,vI (lo+(n:Int))),(7,vI q)],[],[T_],k <= n /\ q=lo+(k:Int) /\ SlIs intE 3 (l++rg lo k) A_ c_ T_ /\ zeroOff A_,n - k⟩) (0,lo,A,c,T) [] [0] (⟨Nat.zero_le _,by omega,by simpa [rg] using hs,hz⟩) ?_
 rintro ⟨k,q,A_,c_,T_⟩ ⟨hk_,hq_,hs_,hz_⟩ mt2
 refine RN.go 8 [] λ _=>RN.em (q < lo+(n:Int)) 11 (λ h3=>?_) λ h3=>?_
 ·refine RN.go 9 [] λ n4=>RN.app intEOk (l++rg lo k) [q] 0 0 (by rw [List.length_append,rg_len]) hs_ (by rw [List.length_append,rg_len];show l.length+k+1 <= 100000000;omega) ?_
  rintro A5 c6 T7 ⟨hs8,hz9⟩
  refine RN.goP 9 [.nw] [I64 (q+1)] λ _=>?_
  have hz2:=hz9 hz_
  refine mt2 (k+1,q+1,A5,c6,T7) [] [0] ?_
  try dsimp only
  refine ⟨⟨by omega,by omega,?_,hz2⟩,by omega⟩
  rw [rg_succ,<- List.append_assoc,show lo+(k:Int)=q by omega]
  exact hs8
 ·refine RN.go 12 [] λ _=>RN.ret [] [] [0] (v:=.slice A_ (l.length+k) c_) (H':=(ap [] [T_])) ?_
  obtain rfl:k=n:=by omega
  exact ⟨(l++rg lo k,A_,c_,T_),rfl,by rw [List.length_append,rg_len],hs_,hz_,rfl⟩
def opl (M:MemS) (k:Int):List Int:=if 0 <= IntKind.i64.wrap (M.get 7 - k) /\ IntKind.i64.wrap (M.get 7 - k) < 16 then [M.get (16+IntKind.i64.wrap (M.get 7 - k))] else []
def operL (M:MemS):List Int:=opl M 1++opl M 2
theorem opl_len (M:MemS) (k:Int):(opl M k).length <= 1:=by unfold opl;split <;> simp
theorem operL_len (M:MemS):(operL M).length <= 2:=by have h1:=opl_len M 1;have h2:=opl_len M 2;unfold operL;rw [List.length_append];omega
theorem opers_any (mb k:Nat) (M:MemS) (T F:HL) (h:MemH mb M k T) (hT:∀ x ∈ T,x ∈ F):Sp Tryz.prog 20 #[.iface 44 (vP mb 0)] [] F (λ u H'=>∃ x:List Int × Option Addr × Nat × HL,H'=ap [] [x.2.2.2] /\ (u=.slice x.2.1 x.1.length x.2.2.1 /\ SlIs intE 3 x.1 x.2.1 x.2.2.1 x.2.2.2 /\ zeroOff x.2.1 /\ x.1=operL M)):=by
 refine Sp.run Tryz.func20 rfl mn (A:=[]) (Ts:=[]) rfl λ w0=>?_
 refine RN.go 13 [] λ _=>RN.cp (get_any 7 h trivial (λ x hx=>ro_ap (hT x hx)))<|RN.go 10 [] λ _=>RN.rounds 2<|RN.go 25 [] λ _=>RN.em (IntKind.i64.wrap ((M.get 7) - 1) >= 0) 18 (λ h1=>?_) λ h1=>?_
 ·refine RN.go 5 [] λ _=>RN.em (IntKind.i64.wrap ((M.get 7) - 1) < 16) 21 (λ h2=>?_) λ h2=>?_
  ·refine RN.goP 6 [.nw] [I64 (16+(IntKind.i64.wrap ((M.get 7) - 1)))] λ _=>RN.cp (get_any (16+(IntKind.i64.wrap ((M.get 7) - 1))) h trivial (λ x hx=>ro_ap (hT x hx)))<|RN.go 1 [] λ n3=>RN.nt<|RN.app intEOk ([]) [M.get (16+(IntKind.i64.wrap ((M.get 7) - 1)))] 0 0 rfl (SlIs.nil _ _) (Nat.le_of_ble_eq_true rfl) ?_
   rintro A4 c5 T6 ⟨hs7,hz8⟩
   refine RN.go 35 [] λ _=>RN.em (IntKind.i64.wrap ((M.get 7) - 2) >= 0) 18 (λ h9=>?_) λ h9=>?_
   ·refine RN.go 5 [] λ _=>RN.em (IntKind.i64.wrap ((M.get 7) - 2) < 16) 21 (λ h10=>?_) λ h10=>?_
    ·refine RN.goP 6 [.nw] [I64 (16+(IntKind.i64.wrap ((M.get 7) - 2)))] λ _=>RN.cp (get_any (16+(IntKind.i64.wrap ((M.get 7) - 2))) h trivial (λ x hx=>ro_ap (hT x hx)))<|RN.go 1 [] λ n11=>RN.app intEOk ([]++[M.get (16+(IntKind.i64.wrap ((M.get 7) - 1)))]) [M.get (16+(IntKind.i64.wrap ((M.get 7) - 2)))] 0 0 rfl hs7 (Nat.le_of_ble_eq_true rfl) ?_
     rintro A12 c13 T14 ⟨hs15,hz16⟩
     refine RN.go 29 [] λ _=>RN.ret [] [] [0] (v:=.slice A12 2 c13) (H':=(ap [] [T14])) ?_
     refine ⟨([]++[M.get (16+(IntKind.i64.wrap ((M.get 7) - 1)))]++[M.get (16+(IntKind.i64.wrap ((M.get 7) - 2)))],A12,c13,T14),rfl,rfl,hs15,(hz16 (hz8 trivial)),?_⟩
     unfold operL opl
     first | (rw [if_pos (by omega),if_pos (by omega)] <;> rfl) | (rw [if_pos (by omega),if_neg (by omega)] <;> rfl) | (rw [if_neg (by omega),if_pos (by omega)] <;> rfl)
    ·refine RN.go 29 [] λ _=>RN.ret [] [] [0] (v:=.slice A4 1 c5) (H':=(ap [] [T6])) ?_
     refine ⟨([]++[M.get (16+(IntKind.i64.wrap ((M.get 7) - 1)))],A4,c5,T6),rfl,rfl,hs7,(hz8 trivial),?_⟩
     unfold operL opl
     first | (rw [if_pos (by omega),if_pos (by omega)] <;> rfl) | (rw [if_pos (by omega),if_neg (by omega)] <;> rfl) | (rw [if_neg (by omega),if_pos (by omega)] <;> rfl)
   ·refine RN.go 34 [] λ _=>RN.ret [] [] [0] (v:=.slice A4 1 c5) (H':=(ap [] [T6])) ?_
    refine ⟨([]++[M.get (16+(IntKind.i64.wrap ((M.get 7) - 1)))],A4,c5,T6),rfl,rfl,hs7,(hz8 trivial),?_⟩
    unfold operL opl
    first | (rw [if_pos (by omega),if_pos (by omega)] <;> rfl) | (rw [if_pos (by omega),if_neg (by omega)] <;> rfl) | (rw [if_neg (by omega),if_pos (by omega)] <;> rfl)
  ·refine RN.go 35 [] λ _=>RN.em (IntKind.i64.wrap ((M.get 7) - 2) >= 0) 18 (λ h17=>?_) λ h17=>?_
   ·refine RN.go 5 [] λ _=>RN.em (IntKind.i64.wrap ((M.get 7) - 2) < 16) 21 (λ h18=>?_) λ h18=>?_
    ·refine RN.goP 6 [.nw] [I64 (16+(IntKind.i64.wrap ((M.get 7) - 2)))] λ _=>RN.cp (get_any (16+(IntKind.i64.wrap ((M.get 7) - 2))) h trivial (λ x hx=>ro_ap (hT x hx)))<|RN.go 1 [] λ n19=>RN.nt<|RN.app intEOk ([]) [M.get (16+(IntKind.i64.wrap ((M.get 7) - 2)))] 0 0 rfl (SlIs.nil _ _) (Nat.le_of_ble_eq_true rfl) ?_
     rintro A20 c21 T22 ⟨hs23,hz24⟩
     refine RN.go 29 [] λ _=>RN.ret [] [] [0] (v:=.slice A20 1 c21) (H':=(ap [] [T22])) ?_
     refine ⟨([]++[M.get (16+(IntKind.i64.wrap ((M.get 7) - 2)))],A20,c21,T22),rfl,rfl,hs23,(hz24 trivial),?_⟩
     unfold operL opl
     first | (rw [if_pos (by omega),if_pos (by omega)] <;> rfl) | (rw [if_pos (by omega),if_neg (by omega)] <;> rfl) | (rw [if_neg (by omega),if_pos (by omega)] <;> rfl)
    ·refine RN.go 29 [] λ _=>RN.nt<|RN.ret [] [] [0] (v:=.slice none 0 0) (H':=(ap [] [([]:HL)])) ?_
     exact ⟨([],none,0,[]),rfl,rfl,SlIs.nil _ _,trivial,by unfold operL opl;rw [if_neg (by omega),if_neg (by omega)];rfl⟩
   ·refine RN.go 34 [] λ _=>RN.nt<|RN.ret [] [] [0] (v:=.slice none 0 0) (H':=(ap [] [([]:HL)])) ?_
    exact ⟨([],none,0,[]),rfl,rfl,SlIs.nil _ _,trivial,by unfold operL opl;rw [if_neg (by omega),if_neg (by omega)];rfl⟩
 ·refine RN.go 40 [] λ _=>RN.em (IntKind.i64.wrap ((M.get 7) - 2) >= 0) 18 (λ h25=>?_) λ h25=>?_
  ·refine RN.go 5 [] λ _=>RN.em (IntKind.i64.wrap ((M.get 7) - 2) < 16) 21 (λ h26=>?_) λ h26=>?_
   ·refine RN.goP 6 [.nw] [I64 (16+(IntKind.i64.wrap ((M.get 7) - 2)))] λ _=>RN.cp (get_any (16+(IntKind.i64.wrap ((M.get 7) - 2))) h trivial (λ x hx=>ro_ap (hT x hx)))<|RN.go 1 [] λ n27=>RN.nt<|RN.app intEOk ([]) [M.get (16+(IntKind.i64.wrap ((M.get 7) - 2)))] 0 0 rfl (SlIs.nil _ _) (Nat.le_of_ble_eq_true rfl) ?_
    rintro A28 c29 T30 ⟨hs31,hz32⟩
    refine RN.go 29 [] λ _=>RN.ret [] [] [0] (v:=.slice A28 1 c29) (H':=(ap [] [T30])) ?_
    refine ⟨([]++[M.get (16+(IntKind.i64.wrap ((M.get 7) - 2)))],A28,c29,T30),rfl,rfl,hs31,(hz32 trivial),?_⟩
    unfold operL opl
    first | (rw [if_pos (by omega),if_pos (by omega)] <;> rfl) | (rw [if_pos (by omega),if_neg (by omega)] <;> rfl) | (rw [if_neg (by omega),if_pos (by omega)] <;> rfl)
   ·refine RN.go 29 [] λ _=>RN.nt<|RN.ret [] [] [0] (v:=.slice none 0 0) (H':=(ap [] [([]:HL)])) ?_
    exact ⟨([],none,0,[]),rfl,rfl,SlIs.nil _ _,trivial,by unfold operL opl;rw [if_neg (by omega),if_neg (by omega)];rfl⟩
  ·refine RN.go 34 [] λ _=>RN.nt<|RN.ret [] [] [0] (v:=.slice none 0 0) (H':=(ap [] [([]:HL)])) ?_
   exact ⟨([],none,0,[]),rfl,rfl,SlIs.nil _ _,trivial,by unfold operL opl;rw [if_neg (by omega),if_neg (by omega)];rfl⟩
end Go.Proofs.YtkhifpbokgabbaaGreatDoor
namespace Go.Proofs
open Go.Shelf
def Tryz.lays189_ren:Go.Shelf.Ren:=⟨λ | 189=>22 | 125=>44 | 257=>43 | 128=>77 | 129=>78 | 294=>68 | 295=>69 | 296=>70 | 297=>71 | 298=>72 | 299=>73 | 216=>74 | 300=>75 | 301=>76 | 328=>109 | 329=>110 | 330=>111 | 331=>112 | 332=>113 | 215=>114 | 343=>137 | n=>n,λ | 28=>22 | 3=>3 | 46=>117 | 0=>0 | 51=>150 | 53=>152 | 4=>4 | 183=>143 | 182=>142 | 131=>131 | 5=>5 | 9=>9 | 218=>172 | 222=>176 | 228=>201 | 229=>202 | n=>n,λ | n=>n⟩
theorem Tryz.lays189:Go.Proofs.Lays.n189 Tryz.prog Tryz.lays189_ren:={
 mixed:=by kernel_rfl
 f125:=Tryz.func44.trans (congrArg some (by kernel_rfl))
 f128:=Tryz.func77.trans (congrArg some (by kernel_rfl))
 f129:=Tryz.func78.trans (congrArg some (by kernel_rfl))
 f189:=Tryz.func22.trans (congrArg some (by kernel_rfl))
 f215:=Tryz.func114.trans (congrArg some (by kernel_rfl))
 f216:=Tryz.func74.trans (congrArg some (by kernel_rfl))
 f257:=Tryz.func43.trans (congrArg some (by kernel_rfl))
 f294:=Tryz.func68.trans (congrArg some (by kernel_rfl))
 f295:=Tryz.func69.trans (congrArg some (by kernel_rfl))
 f296:=Tryz.func70.trans (congrArg some (by kernel_rfl))
 f297:=Tryz.func71.trans (congrArg some (by kernel_rfl))
 f298:=Tryz.func72.trans (congrArg some (by kernel_rfl))
 f299:=Tryz.func73.trans (congrArg some (by kernel_rfl))
 f300:=Tryz.func75.trans (congrArg some (by kernel_rfl))
 f301:=Tryz.func76.trans (congrArg some (by kernel_rfl))
 f328:=Tryz.func109.trans (congrArg some (by kernel_rfl))
 f329:=Tryz.func110.trans (congrArg some (by kernel_rfl))
 f330:=Tryz.func111.trans (congrArg some (by kernel_rfl))
 f331:=Tryz.func112.trans (congrArg some (by kernel_rfl))
 f332:=Tryz.func113.trans (congrArg some (by kernel_rfl))
 f343:=Tryz.func137.trans (congrArg some (by kernel_rfl))
 t0:=Tryz.underlying0
 a0:=Tryz.isAgg0
 z0:=Tryz.sizeOf0
 v0:=Tryz.zeroValue0
 t3:=Tryz.underlying3
 a3:=Tryz.isAgg3
 z3:=Tryz.sizeOf3
 v3:=Tryz.zeroValue3
 t4:=Tryz.underlying4
 a4:=Tryz.isAgg4
 z4:=Tryz.sizeOf4
 v4:=Tryz.zeroValue4
 t5:=Tryz.underlying5
 a5:=Tryz.isAgg5
 z5:=Tryz.sizeOf5
 v5:=Tryz.zeroValue5
 t9:=Tryz.underlying9
 a9:=Tryz.isAgg9
 z9:=Tryz.sizeOf9
 v9:=Tryz.zeroValue9
 t28:=Tryz.underlying22
 a28:=Tryz.isAgg22
 z28:=Tryz.sizeOf22
 v28:=Tryz.zeroValue22
 t46:=Tryz.underlying117
 a46:=Tryz.isAgg117
 z46:=Tryz.sizeOf117
 v46:=Tryz.zeroValue117
 t51:=Tryz.underlying150
 a51:=Tryz.isAgg150
 z51:=Tryz.sizeOf150
 v51:=Tryz.zeroValue150
 t53:=Tryz.underlying152
 a53:=Tryz.isAgg152
 z53:=Tryz.sizeOf152
 v53:=Tryz.zeroValue152
 t131:=Tryz.underlying131
 a131:=Tryz.isAgg131
 z131:=Tryz.sizeOf131
 v131:=Tryz.zeroValue131
 t182:=Tryz.underlying142
 a182:=Tryz.isAgg142
 z182:=Tryz.sizeOf142
 v182:=Tryz.zeroValue142
 t183:=Tryz.underlying143
 a183:=Tryz.isAgg143
 z183:=Tryz.sizeOf143
 v183:=Tryz.zeroValue143
 t218:=Tryz.underlying172
 a218:=Tryz.isAgg172
 z218:=Tryz.sizeOf172
 v218:=Tryz.zeroValue172
 t222:=Tryz.underlying176
 a222:=Tryz.isAgg176
 z222:=Tryz.sizeOf176
 v222:=Tryz.zeroValue176
 t228:=Tryz.underlying201
 a228:=Tryz.isAgg201
 z228:=Tryz.sizeOf201
 v228:=Tryz.zeroValue201
 t229:=Tryz.underlying202
 a229:=Tryz.isAgg202
 z229:=Tryz.sizeOf202
 v229:=Tryz.zeroValue202 }
open Go.Sort Go.RowKit in
theorem Tryz.slices_Sort_int (blk off cap:Nat) (zs:List Int) (w:World) (hH:Holds (Value.int .i64) w blk off zs.toArray) (hblk:blk < w.heap.size) (hsz:zs.length < 4611686018427387904) :
  Calls Tryz.prog 22 #[.slice (some ⟨blk,off,none⟩) zs.length cap] w λ e w' =>
   e=.returned (.tuple #[]) /\ ∃ n os,w'=grow (putRow (Value.int .i64) (Sort.ahead w n) blk off (zs.mergeSort λ x y=>decide (x <= y)).toArray) os:=Any.slices_Sort_int Tryz.lays189 blk off cap zs w hH hblk hsz
def Tryz.laysNm220_ren:Go.Shelf.Ren:=⟨λ | 20=>23 | n=>n,λ | 22=>22 | 3=>3 | 4=>4 | 0=>0 | n=>n,λ | n=>n⟩
theorem Tryz.laysNm220:Go.Proofs.Lays2.n20 Tryz.prog Tryz.laysNm220_ren:={
 mixed:=by kernel_rfl
 f20:=Tryz.func23.trans (congrArg some (by kernel_rfl))
 t0:=Tryz.underlying0
 a0:=Tryz.isAgg0
 z0:=Tryz.sizeOf0
 v0:=Tryz.zeroValue0
 t3:=Tryz.underlying3
 a3:=Tryz.isAgg3
 z3:=Tryz.sizeOf3
 v3:=Tryz.zeroValue3
 t4:=Tryz.underlying4
 a4:=Tryz.isAgg4
 z4:=Tryz.sizeOf4
 v4:=Tryz.zeroValue4
 t22:=Tryz.underlying22
 a22:=Tryz.isAgg22
 z22:=Tryz.sizeOf22
 v22:=Tryz.zeroValue22
 i3:=by kernel_rfl }
open Go.RowKit Go.Lib Go.Sort in
theorem Tryz.slices_Compact_int (blk off cap:Nat) (zs:List Int) (w:World) (hH:Holds (Value.int .i64) w blk off zs.toArray) (hsz:zs.length <= 9223372036854775807) (hcap:zs.length <= cap) :
  Calls Tryz.prog 23 #[.slice (some ⟨blk,off,none⟩) zs.length cap] w λ e w'=>e=.returned (.slice (some ⟨blk,off,none⟩) (Lib.compact zs).length cap) /\ ∃ q,w'=putRow (Value.int .i64) (Sort.ahead w q) blk off (Lib.compact zs++List.replicate (zs.length - (Lib.compact zs).length) 0).toArray:=Any.slices_Compact_int Tryz.laysNm220 blk off cap zs w hH hsz hcap
open Go.RowKit Go.Lib Go.Sort in
theorem Tryz.slices_Compact_int_empty (a:Option Addr) (cap:Nat) (w:World) :
  Calls Tryz.prog 23 #[.slice a 0 cap] w λ e w'=>e=.returned (.slice a 0 cap) /\ w'=w:=Any.slices_Compact_int_empty Tryz.laysNm220 a cap w
open Go.RowKit Go.Sort in
theorem Tryz.slices_Sort_int_none (p:Option Addr) (cap:Nat) (w:World) :
  Calls Tryz.prog 22 #[.slice p 0 cap] w λ e w'=>e=.returned (.tuple #[]) /\ w'=w:=Any.slices_Sort_int_none Tryz.lays189 p cap w
end Go.Proofs
namespace Go.Proofs.YtkhifpbokgabbaaGreatDoor
open Go.RowKit
theorem cells_int (l:List Int):cellsE intE l=l.map vI:=by
  induction l with
  | nil=>rfl
  | cons x l ih =>
    show ((List.range 1).map (intE.cell x))++cellsE intE l=_
    rw [ih];rfl
theorem den_int (l:List Int) (c:Nat) (h:l.length=c) (T:TypeId):(Blk.rows 1 c (rowE intE l) T (0,0)).den=.cells ⟨l.map vI⟩ T (0,0):=by
  subst h
  show Obj.cells ⟨rowsOf 1 (rowE intE l) l.length⟩ T (0,0)=_
  have:=rows_all (e:=intE) l
  rw [cells_int] at this
  rw [show rowsOf 1 (rowE intE l) l.length=rowsOf intE.w (rowE intE l) l.length from rfl,this]
theorem rel_grow {H:HL} {w:World} (h:Rel H w) (os:Array Obj):Rel H (Go.Sort.grow w os):=⟨λ x hx=>by
  have h1:=h.holds x hx
  show (w.heap++os)[x.1]?=_
  rw [Array.getElem?_append_left (lt_of_heap' h1)]
  exact h1,h.nodup⟩
theorem arr_get (l:List Value) (k:Nat):(⟨l⟩:Array Value)[k]?=l[k]?:=by simp
theorem put_cells (l l2 rest:List Int) (hl:l2.length=l.length):Go.Sort.putCells (Value.int .i64) 0 l2.toArray ⟨(l++rest).map vI⟩=⟨(l2++rest).map vI⟩:=by
  apply Array.ext_getElem?
  intro k
  unfold Go.Sort.putCells
  rw [Array.getElem?_mapIdx]
  rw [arr_get,arr_get,List.getElem?_map,List.getElem?_map]
  by_cases hk:k < l.length
  · rw [List.getElem?_append_left hk,List.getElem?_append_left (by omega),List.getElem?_eq_getElem hk,List.getElem?_eq_getElem (by omega)]
    have h2:0 <= k /\ k < 0+l2.toArray.size:=⟨Nat.zero_le _,by simp;omega⟩
    simp only [Option.map_some,if_pos h2,Nat.sub_zero]
    rw [getElem!_pos l2.toArray k (by simp;omega)]
    simp
  · rw [List.getElem?_append_right (by omega),List.getElem?_append_right (by omega),hl]
    cases rest[k - l.length]? with
    | none=>rfl
    | some y =>
      have h2:¬ (0 <= k /\ k < 0+l2.toArray.size):=by simp;omega
      simp only [Option.map_some,if_neg h2]
theorem rel_put {b c:Nat} {l l2 rest:List Int} {T:TypeId} {F:HL} {w w':World} (hl:l2.length=l.length) (hc:l.length+rest.length=c) (hR:Rel ([(b,.rows 1 c (rowE intE (l++rest)) T (0,0))]++F) w)
    (hw:w'.heap=(Go.Sort.putRow (Value.int .i64) w b 0 l2.toArray).heap):Rel ([(b,.rows 1 c (rowE intE (l2++rest)) T (0,0))]++F) w':=by
  have h0:=hR.holds _ (List.mem_append_left _ (List.mem_singleton.2 rfl))
  simp only at h0
  rw [den_int _ _ (by rw [List.length_append];exact hc)] at h0
  refine hR.upd (p:=0) (b:=b) (bl':=.rows 1 c (rowE intE (l2++rest)) T (0,0)) rfl ?_ ?_
  · rw [hw,den_int _ _ (by rw [List.length_append,hl];exact hc)]
    show (w.heap.modify b _)[b]?=_
    rw [Array.getElem?_modify,if_pos rfl,h0]
    show some (Obj.cells (Go.Sort.putCells (Value.int .i64) 0 l2.toArray ⟨(l++rest).map vI⟩) T (0,0))=_
    rw [put_cells l l2 rest hl]
  · intro k hk
    rw [hw]
    show (w.heap.modify b _)[k]?=_
    rw [Array.getElem?_modify,if_neg (λ e=>hk e.symm)]
theorem holds_int {b c:Nat} {l rest:List Int} {T:TypeId} {F:HL} {w:World} (hc:l.length+rest.length=c) (hR:Rel ([(b,.rows 1 c (rowE intE (l++rest)) T (0,0))]++F) w):Go.Sort.Holds (Value.int .i64) w b 0 l.toArray:=by
  have h0:=hR.holds _ (List.mem_append_left _ (List.mem_singleton.2 rfl))
  simp only at h0
  rw [den_int _ _ (by rw [List.length_append];exact hc)] at h0
  intro j hj
  have hj':j < l.length:=by simpa using hj
  refine ⟨?_,?_⟩
  · unfold World.cell?
    simp only [h0,Nat.zero_add]
    rw [if_neg (by simp),arr_get,List.getElem?_map,List.getElem?_append_left hj',List.getElem?_eq_getElem hj',getElem!_pos l.toArray j hj]
    simp
  · unfold World.frozen?
    simp only [h0]
    simp
theorem sl_mk {b c:Nat} {l rest:List Int} {T:TypeId} (hc:l.length+rest.length=c):SlIs intE T l (some ⟨b,0,none⟩) c [(b,.rows 1 c (rowE intE (l++rest)) T (0,0))] :=
  .inr ⟨b,0,l++rest,by simp,by rw [Nat.zero_add];rfl,by rw [Nat.zero_add,List.length_append];exact hc,by omega,by simp⟩
abbrev srt (l:List Int):List Int:=l.mergeSort λ x y=>decide (x <= y)
theorem srt_len (l:List Int):(srt l).length=l.length:=List.length_mergeSort _
theorem srt_mem {l:List Int} {x:Int}:x ∈ srt l ↔ x ∈ l:=List.mem_mergeSort
theorem sort_any (l:List Int) (A:Option Addr) (c:Nat) (T F:HL) (hs:SlIs intE 3 l A c T) (hz:zeroOff A) (hb:l.length <= 100000000):Sp Tryz.prog 22 #[.slice A l.length c] (ap [] [T]) F (λ u H'=>∃ x:HL,H'=ap [] [x] /\ (u=.tuple #[] /\ SlIs intE 3 (srt l) A c x)):=by
  intro w hR
  by_cases hl:l=[]
  · subst hl
    refine (Tryz.slices_Sort_int_none A c w).mono ?_
    rintro e w' ⟨rfl,rfl⟩
    exact ⟨_,_,rfl,⟨T,rfl,rfl,by simpa [srt] using hs⟩,hR,Below.refl _ _⟩
  · obtain ⟨b,rest,rfl,rfl,hc⟩:=hs.openL hz (by decide) (List.length_pos_iff.2 hl)
    rw [List.length_append] at hc
    have hR1:Rel ([(b,.rows 1 c (rowE intE (l++rest)) 3 (0,0))]++F) w:=by rwa [ap,List.flatten_singleton,List.nil_append] at hR
    have hlt:=hR1.lt (List.mem_append_left _ (List.mem_singleton.2 rfl))
    refine (Tryz.slices_Sort_int b 0 c l w (holds_int hc hR1) hlt (by omega)).mono ?_
    rintro e w' ⟨rfl,n,os,rfl⟩
    refine ⟨_,_,rfl,⟨_,rfl,rfl,sl_mk (l:=srt l) (rest:=rest) (by rw [srt_len];exact hc)⟩,?_,?_⟩
    · have h2:=rel_grow (rel_put (w':=Go.Sort.putRow (Value.int .i64) (Go.Sort.ahead w n) b 0 (srt l).toArray) (srt_len l) hc hR1 rfl) os
      show Rel (([]++[_].flatten)++F) _
      rw [List.flatten_singleton,List.nil_append]
      exact h2
    · exact ⟨rfl,rfl,rfl,by show w.heap.size <= ((w.heap.modify _ _)++os).size;simp,λ k hk=>absurd hk (Nat.not_lt_zero _)⟩
theorem cmp_any (l:List Int) (A:Option Addr) (c:Nat) (T F:HL) (hs:SlIs intE 3 l A c T) (hz:zeroOff A) (hb:l.length <= 100000000):Sp Tryz.prog 23 #[.slice A l.length c] (ap [] [T]) F (λ u H'=>∃ x:HL,H'=ap [] [x] /\ (u=.slice A (Lib.compact l).length c /\ SlIs intE 3 (Lib.compact l) A c x)):=by
  intro w hR
  by_cases hl:l=[]
  · subst hl
    refine (Tryz.slices_Compact_int_empty A c w).mono ?_
    rintro e w' ⟨rfl,rfl⟩
    exact ⟨_,_,rfl,⟨T,rfl,rfl,hs⟩,hR,Below.refl _ _⟩
  · obtain ⟨b,rest,rfl,rfl,hc⟩:=hs.openL hz (by decide) (List.length_pos_iff.2 hl)
    rw [List.length_append] at hc
    have hR1:Rel ([(b,.rows 1 c (rowE intE (l++rest)) 3 (0,0))]++F) w:=by rwa [ap,List.flatten_singleton,List.nil_append] at hR
    have hle:=Lib.compact_length_le l
    refine (Tryz.slices_Compact_int b 0 c l w (holds_int hc hR1) (by omega) (by omega)).mono ?_
    rintro e w' ⟨rfl,q,rfl⟩
    have hl2:(Lib.compact l++List.replicate (l.length - (Lib.compact l).length) 0).length=l.length:=by rw [List.length_append,List.length_replicate];omega
    refine ⟨_,_,rfl,⟨_,rfl,rfl,sl_mk (l:=Lib.compact l) (rest:=List.replicate (l.length - (Lib.compact l).length) 0++rest) (by rw [List.length_append,List.length_replicate];omega)⟩,?_,?_⟩
    · have h2:=rel_put (w':=Go.Sort.putRow (Value.int .i64) (Go.Sort.ahead w q) b 0 (Lib.compact l++List.replicate (l.length - (Lib.compact l).length) 0).toArray) hl2 hc hR1 rfl
      rw [List.append_assoc] at h2
      show Rel (([]++[_].flatten)++F) _
      rw [List.flatten_singleton,List.nil_append]
      exact h2
    · exact ⟨rfl,rfl,rfl,by show w.heap.size <= (w.heap.modify _ _).size;simp,λ k hk=>absurd hk (Nat.not_lt_zero _)⟩
theorem cmp_mem {l:List Int} {x:Int}:x ∈ Lib.compact l ↔ x ∈ l:=by
  unfold Lib.compact Lib.compactUpTo
  rw [List.mem_map]
  constructor
  · rintro ⟨j,hj,rfl⟩
    have h1:=List.mem_range.1 (List.mem_filter.1 hj).1
    rw [getElem!_pos l.toArray j (by simpa using h1)]
    simp
  · intro h
    obtain ⟨j,hj,rfl⟩:=List.getElem_of_mem h
    have key:∀ n j:Nat,j < n -> (hj:j < l.length) -> ∃ a ∈ (List.range l.length).filter (Lib.keeps l.toArray),l.toArray[a]! = l[j]:=by
      intro n
      induction n with
      | zero=>intro j h;omega
      | succ n ih =>
        intro j hn hj
        by_cases h0:l.toArray[j]! ≠ l.toArray[j - 1]! \/ j=0
        · refine ⟨j,List.mem_filter.2 ⟨List.mem_range.2 hj,?_⟩,?_⟩
          · unfold Lib.keeps
            simp only [decide_eq_true_eq]
            exact h0.elim .inr .inl
          · rw [getElem!_pos l.toArray j (by simpa using hj)];simp
        · have h1:l.toArray[j]! = l.toArray[j - 1]!:=by
            by_cases e:l.toArray[j]! = l.toArray[j - 1]!
            · exact e
            · exact absurd (.inl e) h0
          have h2:j ≠ 0:=λ e=>h0 (.inr e)
          obtain ⟨a,ha,hb⟩:=ih (j - 1) (by omega) (by omega)
          refine ⟨a,ha,?_⟩
          rw [getElem!_pos l.toArray j (by simpa using hj),getElem!_pos l.toArray (j - 1) (by simp;omega)] at h1
          rw [hb]
          simpa using h1.symm
    exact key (j+1) j (Nat.lt_succ_self _) hj
end Go.Proofs.YtkhifpbokgabbaaGreatDoor
