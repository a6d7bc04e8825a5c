import Derived.WalkKit
import Derived.OrdersHeld
import Derived.Deep.RegionHeld3
import Derived.KernelRfl
import Derived.Laws.StructEq
set_option maxHeartbeats 4000000
set_option maxRecDepth 100000
set_option linter.unusedSimpArgs false
set_option linter.unusedVariables false
namespace Go.Proofs.YtobflkidpfkcaaaGreatDoor
open Go.RowKit
inductive Blk where
 | lit (cs:List Value) (ty:TypeId) (fz:Nat × Nat)
 | rows (w n:Nat) (g:Nat -> Nat -> Value) (ty:TypeId) (fz:Nat × Nat)
 | obj (o:Obj)
def bB (w:Nat) (g:Nat -> Nat -> Value):Nat -> List Value
 | 0=>[]
 | n+1=>bB w g n++(List.range w).map (g n)
def Blk.den:Blk -> Obj
 | .lit cs ty fz=>.cells ⟨cs⟩ ty fz
 | .rows w n g ty fz=>.cells ⟨bB w g n⟩ ty fz
 | .obj o=>o
theorem cO (w:Nat) (g:Nat -> Nat -> Value) (n:Nat):(bB w g n).length=n * w:=by
 induction n with
 | zero=>simp [bB]
 | succ n ih=>simp [bB,ih,Nat.succ_mul]
theorem l9 {w:Nat} {g:Nat -> Nat -> Value} {n i k:Nat} (hi:i < n) (hk:k < w):(bB w g n)[i * w+k]?=some (g i k):=by
 induction n with
 | zero=>omega
 | succ n ih =>
  rw [bB]
  rcases Nat.lt_or_ge i n with h | h
  ·have h1:i * w+k < n * w:=by
    have:(i+1) * w <= n * w:=Nat.mul_le_mul_right _ h
    rw [Nat.succ_mul] at this
    omega
   rw [List.getElem?_append_left (by rw [cO];exact h1),ih h]
  ·obtain rfl:i=n:=by omega
   rw [List.getElem?_append_right (by rw [cO];omega),cO]
   rw [Nat.add_sub_cancel_left]
   simp [hk]
def dT (g:Nat -> Nat -> Value) (i k:Nat) (v:Value):Nat -> Nat -> Value:=λ i' k'=>if i'=i /\ k'=k then v else g i' k'
theorem tz {w:Nat} {g g':Nat -> Nat -> Value} {n:Nat} (h:∀ i k,i < n -> k < w -> g i k=g' i k):bB w g n=bB w g' n:=by
 induction n with
 | zero=>rfl
 | succ n ih =>
  rw [bB,bB,ih (λ i k hi hk=>h i k (by omega) hk)]
  congr 1
  exact List.map_congr_left λ k hk=>h n k (by omega) (List.mem_range.1 hk)
theorem ie {w:Nat} {g:Nat -> Nat -> Value} {n:Nat} {l:List Value} (hl:l.length=n * w) (h:∀ i k,i < n -> k < w -> l[i * w+k]?=some (g i k)):bB w g n=l:=by
 apply List.ext_getElem?
 intro j
 rcases Nat.lt_or_ge j (n * w) with hj | hj
 ·have hw:0 < w:=by
   rcases Nat.eq_zero_or_pos w with h0 | h0
   ·subst h0;simp at hj
   ·exact h0
  have h1:j / w * w+j % w=j:=by rw [Nat.mul_comm];exact Nat.div_add_mod j w
  have hi:j / w < n:=Nat.div_lt_of_lt_mul (by rw [Nat.mul_comm];exact hj)
  have hk:j % w < w:=Nat.mod_lt _ hw
  have h2:=h _ _ hi hk
  rw [h1] at h2
  rw [h2]
  have:=l9 (g:=g) hi hk
  rw [h1] at this
  exact this
 ·rw [List.getElem?_eq_none (by rw [cO];exact hj),List.getElem?_eq_none (by omega)]
theorem xC {w:Nat} {g:Nat -> Nat -> Value} {n i k:Nat} (hi:i < n) (hk:k < w) (v:Value):(bB w g n).set (i * w+k) v=bB w (dT g i k v) n:=by
 symm
 refine ie (by rw [List.length_set,cO]) ?_
 intro i' k' hi' hk'
 rw [List.getElem?_set,cO]
 by_cases e:i * w+k=i' * w+k'
 ·have e1:i=i':=by
   rcases Nat.lt_trichotomy i i' with h | h | h
   ·have:(i+1) * w <= i' * w:=Nat.mul_le_mul_right _ h
    rw [Nat.succ_mul] at this;omega
   ·exact h
   ·have:(i'+1) * w <= i * w:=Nat.mul_le_mul_right _ h
    rw [Nat.succ_mul] at this;omega
  subst e1
  have e2:k=k':=by omega
  subst e2
  have h1:i * w+k < n * w:=by
   have:(i+1) * w <= n * w:=Nat.mul_le_mul_right _ hi
   rw [Nat.succ_mul] at this
   omega
  simp [h1,dT]
 ·rw [if_neg e,l9 hi' hk']
  unfold dT
  rw [if_neg]
  rintro ⟨rfl,rfl⟩
  exact e rfl
abbrev HL:=List (Nat × Blk)
def zx (w:World) (H:HL):Prop:=∀ x ∈ H,w.heap[x.1]?=some x.2.den
structure Rel (H:HL) (w:World):Prop where
 holds:zx w H
 nodup:(H.map (·.1)).Nodup
theorem de {w:World} {k:Nat} {o:Obj} (h:w.heap[k]?=some o):k < w.heap.size:=(Array.getElem?_eq_some_iff.1 h).1
theorem Rel.lt {H:HL} {w:World} (h:Rel H w) {x:Nat × Blk} (hx:x ∈ H):x.1 < w.heap.size:=de (h.holds x hx)
theorem Rel.drop {H X:HL} {w:World} (h:Rel (X++H) w):Rel H w :=
 ⟨λ x hx=>h.holds x (List.mem_append_right _ hx),by have:=h.nodup;rw [List.map_append] at this;exact (List.nodup_append.1 this).2.1⟩
theorem Rel.perm {H H':HL} {w:World} (h:Rel H w) (hp:H'.Perm H):Rel H' w :=
 ⟨λ x hx=>h.holds x (hp.mem_iff.1 hx),(hp.map _).nodup_iff.2 h.nodup⟩
theorem Rel.sub {H H':HL} {w:World} (h:Rel H w) (hp:H'.Sublist H):Rel H' w :=
 ⟨λ x hx=>h.holds x (hp.subset hx),(hp.map _).nodup h.nodup⟩
theorem Rel.cons {H:HL} {w:World} {o:Obj} (b:Blk) (hb:b.den=o) (h:Rel H w):Rel ((w.heap.size,b) :: H) { w with heap:=w.heap.push o }:=by
 subst hb
 constructor
 ·intro x hx
  show (w.heap.push b.den)[x.1]?=_
  rcases List.mem_cons.1 hx with rfl | hx
  ·simp
  ·rw [Array.getElem?_push,if_neg (by have:=h.lt hx;omega)]
   exact h.holds x hx
 ·simp only [List.map_cons,List.nodup_cons]
  refine ⟨?_,h.nodup⟩
  intro hm
  obtain ⟨x,hx,he⟩:=List.mem_map.1 hm
  have:=h.lt hx
  omega
theorem Rel.world {H:HL} {w w':World} (h:Rel H w) (e:w'.heap=w.heap):Rel H w':=⟨λ x hx=>by rw [e];exact h.holds x hx,h.nodup⟩
def br {α:Type}:List α -> Nat -> α -> List α
 | [],_,_=>[]
 | _ :: l,0,x=>x :: l
 | y :: l,n+1,x=>y :: br l n x
theorem ig {α:Type} (l:List α) (n:Nat) (x:α):br l n x=l.set n x:=by
 induction l generalizing n with
 | nil=>rfl
 | cons y l ih=>cases n with
  | zero=>rfl
  | succ n=>rw [br,ih];rfl
theorem Rel.upd {H F:HL} {w w':World} {p:Nat} {b:Nat} {bl bl':Blk} (h:Rel (H++F) w) (hp:H[p]?=some (b,bl)) (hd:w'.heap[b]?=some bl'.den) (hs:∀ k,k ≠ b -> w'.heap[k]?=w.heap[k]?):Rel (br H p (b,bl')++F) w':=by
 have hlt:p < H.length:=(List.getElem?_eq_some_iff.1 hp).1
 have hHp:H[p]=(b,bl):=(List.getElem?_eq_some_iff.1 hp).2
 rw [ig]
 have hmap:((H.set p (b,bl')++F).map (·.1))=(H++F).map (·.1):=by
  rw [List.map_append,List.map_append,List.map_set]
  congr 1
  apply List.ext_getElem?
  intro j
  rw [List.getElem?_set]
  by_cases hj:p=j
  ·subst hj
   simp [hlt,hHp]
  ·rw [if_neg hj]
 refine ⟨?_,by rw [hmap];exact h.nodup⟩
 intro x hx
 obtain ⟨j,hj⟩:=List.getElem?_of_mem hx
 by_cases hjp:j=p
 ·subst hjp
  rw [List.getElem?_append_left (by simpa using hlt),List.getElem?_set,if_pos rfl,if_pos hlt] at hj
  obtain rfl:(b,bl')=x:=by simpa using hj
  exact hd
 ·have hj':(H++F)[j]?=some x:=by
   rcases Nat.lt_or_ge j H.length with hl | hl
   ·rw [List.getElem?_append_left (by simpa using hl),List.getElem?_set,if_neg (λ e=>hjp e.symm)] at hj
    rw [List.getElem?_append_left hl];exact hj
   ·rw [List.getElem?_append_right (by simpa using hl),List.length_set] at hj
    rw [List.getElem?_append_right hl];exact hj
  have hne:x.1 ≠ b:=by
   intro e
   have hnd:=h.nodup
   rw [List.nodup_iff_pairwise_ne,List.pairwise_iff_getElem] at hnd
   have hjl:j < (H++F).length:=(List.getElem?_eq_some_iff.1 hj').1
   have hpl:(H++F)[p]?=some (b,bl):=by rw [List.getElem?_append_left hlt];exact hp
   have hpl':p < (H++F).length:=(List.getElem?_eq_some_iff.1 hpl).1
   have e1:((H++F).map (·.1))[j]'(by rw [List.length_map];exact hjl)=x.1:=by rw [List.getElem_map,(List.getElem?_eq_some_iff.1 hj').2]
   have e2:((H++F).map (·.1))[p]'(by rw [List.length_map];exact hpl')=b:=by rw [List.getElem_map,(List.getElem?_eq_some_iff.1 hpl).2]
   rcases Nat.lt_or_ge j p with hlt' | hge
   ·exact hnd j p _ _ hlt' (by rw [e1,e2,e])
   ·exact hnd p j _ _ (by omega) (by rw [e1,e2,e])
  rw [hs _ hne]
  exact h.holds x (List.mem_of_getElem? hj')
theorem Rel.store {H F:HL} {w:World} {p:Nat} {b:Nat} {bl bl':Blk} {a:Addr} {v:Value} (h:Rel (H++F) w) (hp:H[p]?=some (b,bl)) (ha:a.block=b)
  (hd:∀ W:World,W.heap[b]?=some bl.den -> (W.setCell a v).heap[b]?=some bl'.den):Rel (br H p (b,bl')++F) (w.setCell a v) :=
 h.upd hp (hd w (h.holds (b,bl) (List.mem_append_left _ (List.mem_of_getElem? hp)))) (λ k hk=>Below.heap_setCell _ _ _ _ (by rw [ha];exact hk))
inductive Hint where
 | own (p:Nat)
 | row (p i k:Nat)
 | ro (p:Nat)
 | rorow (p i k:Nat)
 | ix (j:Nat)
 | nw
 | sl (l h:Nat) (e:Bool)
 | mk (l c:Nat)
 | dv
 | sh (n:Nat)
 | gd (b:Bool)
 | sq
 | gen
 | mp (p:Nat) (kv:List (ByteArray × Value)) (v:Value)
 | mq (p:Nat) (kv:List (ByteArray × Value)) (v:Value)
 | sl0 (h:Nat)
structure SS where
 h:HL
 r:HL
 hints:List Hint
 cnt:Nat
 eq:List (Nat × Nat)
 ob:List Prop
 wr:Bool
def cg (P:Program) (n0:Nat) {α:Type}:Sem α -> SS -> Option (α × SS)
 | .pure a,s=>some (a,s)
 | .load _ a k,s=>match s.hints with
   | .own p :: hs=>match s.h[p]? with
    | some (b,.lit cs _ _)=>match a.spot,cs[a.off]? with
     | none,some v=>cg P n0 (k v) { s with hints:=hs,eq:=(a.block,b) :: s.eq }
     | _,_=>none
    | _=>none
   | .row p i j :: hs=>match s.h[p]? with
    | some (b,.rows w n g _ _)=>match a.spot,decide (j < w) with
     | none,true=>cg P n0 (k (g i j)) { s with hints:=hs,eq:=(a.block,b) :: s.eq,ob:=(a.off=i * w+j /\ i < n) :: s.ob }
     | _,_=>none
    | _=>none
   | .ro p :: hs=>match s.r[p]? with
    | some (b,.lit cs _ _)=>match a.spot,cs[a.off]? with
     | none,some v=>cg P n0 (k v) { s with hints:=hs,eq:=(a.block,b) :: s.eq }
     | _,_=>none
    | _=>none
   | .rorow p i j :: hs=>match s.r[p]? with
    | some (b,.rows w n g _ _)=>match a.spot,decide (j < w) with
     | none,true=>cg P n0 (k (g i j)) { s with hints:=hs,eq:=(a.block,b) :: s.eq,ob:=(a.off=i * w+j /\ i < n) :: s.ob }
     | _,_=>none
    | _=>none
   | _=>none
 | .store _ a v k,s=>match v with
   | .agg _=>none
   | .tuple _=>none
   | v=>match s.hints with
    | .own p :: hs=>match s.h[p]? with
     | some (b,.lit cs t fz)=>match a.spot,decide (a.off < cs.length),decide (fz.2=0) with
      | none,true,true=>match s.wr with
       | false=>none
       | true=>cg P n0 k { s with h:=br s.h p (b,.lit (br cs a.off v) t fz),hints:=hs,eq:=(a.block,b) :: s.eq }
      | _,_,_=>none
     | _=>none
    | .row p i j :: hs=>match s.h[p]? with
     | some (b,.rows w n g t fz)=>match a.spot,decide (j < w),decide (fz.2=0) with
      | none,true,true=>match s.wr with
       | false=>none
       | true=>cg P n0 k { s with h:=br s.h p (b,.rows w n (dT g i j v) t fz),hints:=hs,eq:=(a.block,b) :: s.eq,ob:=(a.off=i * w+j /\ i < n) :: s.ob }
      | _,_,_=>none
     | _=>none
    | _=>none
 | .new o k,s=>match s.wr with
  | false=>none
  | true=>match o with
   | .cells c ty fz=>cg P n0 (k (n0+s.cnt)) { s with h:=(n0+s.cnt,.lit c.toList ty fz) :: s.h,cnt:=s.cnt+1 }
   | o=>cg P n0 (k (n0+s.cnt)) { s with h:=(n0+s.cnt,.obj o) :: s.h,cnt:=s.cnt+1 }
 | .program k,s=>cg P n0 (k P) s
 | .mark _ k,s=>cg P n0 k s
 | .getObj r k,s=>match s.hints with
   | .own p :: hs=>match s.h[p]? with
    | some (b,.obj o)=>match o with
     | .cells _ _ _=>none
     | o=>cg P n0 (k o) { s with hints:=hs,eq:=(r,b) :: s.eq }
    | _=>none
   | _=>none
 | .setObj r o k,s=>match s.hints with
   | .own p :: hs=>match s.h[p]?,s.wr with
    | some (b,.obj o'),true=>match o' with
     | .cells _ _ _=>none
     | _=>cg P n0 k { s with h:=br s.h p (b,.obj o),hints:=hs,eq:=(r,b) :: s.eq }
    | _,_=>none
   | _=>none
 | _,_=>none
theorem oJ {W:World} {a:Addr} {b:Nat} {cs:List Value} {ty:TypeId} {fz:Nat × Nat} {v:Value} (ha:a.block=b) (hs:a.spot=none) (h:W.heap[b]?=some (Blk.lit cs ty fz).den) :
  (W.setCell a v).heap[b]?=some (Blk.lit (br cs a.off v) ty fz).den:=by
 subst ha
 simp only [World.setCell,Array.getElem?_modify,if_true,h,Option.map_some,Blk.den,hs,Option.isSome_none,Bool.false_eq_true,if_false,ig]
 simp
theorem tC {W:World} {a:Addr} {b w n i k:Nat} {g:Nat -> Nat -> Value} {ty:TypeId} {fz:Nat × Nat} {v:Value} (ha:a.block=b) (hs:a.spot=none) (ho:a.off=i * w+k) (hi:i < n) (hk:k < w)
  (h:W.heap[b]?=some (Blk.rows w n g ty fz).den):(W.setCell a v).heap[b]?=some (Blk.rows w n (dT g i k v) ty fz).den:=by
 subst ha
 simp only [World.setCell,Array.getElem?_modify,if_true,h,Option.map_some,Blk.den,hs,Option.isSome_none,Bool.false_eq_true,if_false,<- xC hi hk,ho]
 simp
theorem dj {P:Program} {n0:Nat} {α:Type} (s:Sem α):∀ (ss ss':SS) (x:α),cg P n0 s ss=some (x,ss') -> (∀ p ∈ ss.eq,p ∈ ss'.eq) /\ (∀ p ∈ ss.ob,p ∈ ss'.ob) /\ ss'.r=ss.r /\ ss'.wr=ss.wr:=by
 induction s with
 | pure a=>intro ss ss' x h;rw [cg] at h;cases h;exact ⟨λ _ h=>h,λ _ h=>h,rfl,rfl⟩
 | load m a k ih =>
  intro ss ss' x h
  rw [cg] at h
  split at h
  case h_5=>cases h
  all_goals
   split at h
   case h_2=>cases h
   split at h
   case h_2=>cases h
   obtain ⟨h1,h2,h3⟩:=ih _ _ _ _ h
   exact ⟨λ p hp=>h1 p (List.mem_cons_of_mem _ hp),λ p hp=>h2 p (by first | exact hp | exact List.mem_cons_of_mem _ hp),h3⟩
 | store m a v k ih =>
  intro ss ss' x h
  rw [cg.eq_def] at h
  dsimp only at h
  split at h
  ·cases h
  ·cases h
  ·split at h
   case h_3=>cases h
   all_goals
    split at h
    case h_2=>cases h
    split at h
    case h_2=>cases h
    split at h
    ·cases h
    obtain ⟨h1,h2,h3⟩:=ih _ _ _ h
    exact ⟨λ p hp=>h1 p (List.mem_cons_of_mem _ hp),λ p hp=>h2 p (by first | exact hp | exact List.mem_cons_of_mem _ hp),h3⟩
 | new o k ih =>
  intro ss ss' x h
  rw [cg.eq_def] at h
  dsimp only at h
  split at h
  ·cases h
  split at h <;> (have h1:=ih _ _ _ _ h;exact h1)
 | program k ih=>intro ss ss' x h;rw [cg] at h;exact ih _ _ _ _ h
 | mark m k ih=>intro ss ss' x h;rw [cg] at h;exact ih _ _ _ h
 | getObj r k ih =>
  intro ss ss' x h
  rw [cg.eq_def] at h
  dsimp only at h
  split at h
  case h_2=>cases h
  split at h
  case h_2=>cases h
  split at h
  ·cases h
  obtain ⟨h1,h2,h3⟩:=ih _ _ _ _ h
  exact ⟨λ p hp=>h1 p (List.mem_cons_of_mem _ hp),h2,h3⟩
 | setObj r o k ih =>
  intro ss ss' x h
  rw [cg.eq_def] at h
  dsimp only at h
  split at h
  case h_2=>cases h
  split at h
  case h_2=>cases h
  split at h
  ·cases h
  obtain ⟨h1,h2,h3⟩:=ih _ _ _ h
  exact ⟨λ p hp=>h1 p (List.mem_cons_of_mem _ hp),h2,h3⟩
 | _=>intro ss ss' x h;simp [cg] at h
theorem zy {P:Program} {n0:Nat} {α:Type} (s:Sem α):∀ (ss ss':SS) (x:α),cg P n0 s ss=some (x,ss') -> ss.wr=false -> ss'.h=ss.h:=by
 induction s with
 | pure a=>intro ss ss' x h _;rw [cg] at h;cases h;rfl
 | load m a k ih =>
  intro ss ss' x h hw
  rw [cg] at h
  split at h
  case h_5=>cases h
  all_goals
   split at h
   case h_2=>cases h
   split at h
   case h_2=>cases h
   exact (ih _ _ _ _ h hw :)
 | store m a v k ih =>
  intro ss ss' x h hw
  rw [cg.eq_def] at h
  dsimp only at h
  split at h
  ·cases h
  ·cases h
  ·split at h
   case h_3=>cases h
   all_goals
    split at h
    case h_2=>cases h
    split at h
    case h_2=>cases h
    split at h
    ·cases h
    rename_i e
    rw [hw] at e;cases e
 | new o k ih =>
  intro ss ss' x h hw
  rw [cg.eq_def] at h
  dsimp only at h
  split at h
  ·cases h
  rename_i e
  rw [hw] at e;cases e
 | program k ih=>intro ss ss' x h hw;rw [cg] at h;exact ih _ _ _ _ h hw
 | mark m k ih=>intro ss ss' x h hw;rw [cg] at h;exact ih _ _ _ h hw
 | getObj r k ih =>
  intro ss ss' x h hw
  rw [cg.eq_def] at h
  dsimp only at h
  split at h
  case h_2=>cases h
  split at h
  case h_2=>cases h
  split at h
  ·cases h
  exact (ih _ _ _ _ h hw :)
 | setObj r o k ih =>
  intro ss ss' x h hw
  rw [cg.eq_def] at h
  dsimp only at h
  split at h
  case h_2=>cases h
  split at h
  case h_2=>cases h
  rename_i e
  rw [hw] at e;cases e
 | _=>intro ss ss' x h;simp [cg] at h
theorem mO {w:World} {a:Addr} {b:Nat} {cs:List Value} {ty:TypeId} {fz:Nat × Nat} {v:Value} (h:w.heap[b]?=some (Blk.lit cs ty fz).den) (ha:a.block=b) (hs:a.spot=none) (hv:cs[a.off]?=some v):w.cell? a=some v:=by
 subst ha
 simp [World.cell?,h,Blk.den,hs,hv]
theorem gX {W:World} {a:Addr} {b w n i k:Nat} {g:Nat -> Nat -> Value} {ty:TypeId} {fz:Nat × Nat} (h:W.heap[b]?=some (Blk.rows w n g ty fz).den) (ha:a.block=b) (hs:a.spot=none) (ho:a.off=i * w+k) (hi:i < n) (hk:k < w):W.cell? a=some (g i k):=by
 subst ha
 simp [World.cell?,h,Blk.den,hs,ho,l9 hi hk]
theorem nI {w:World} {a:Addr} {b:Nat} {bl:Blk} (h:w.heap[b]?=some bl.den) (ha:a.block=b) (hz:match bl with | .lit _ _ fz=>fz.2=0 | .rows _ _ _ _ fz=>fz.2=0 | .obj _=>False):w.frozen? a=false:=by
 subst ha
 cases bl with
 | lit cs ty fz=>obtain ⟨lo,hi⟩:=fz;simp only at hz;subst hz;simp [World.frozen?,h,Blk.den]
 | rows w n g ty fz=>obtain ⟨lo,hi⟩:=fz;simp only at hz;subst hz;simp [World.frozen?,h,Blk.den]
 | obj o=>exact hz.elim
theorem rZ {P:Program} {α:Type} {m:Mode} {a:Addr} {v u:Value} {k:Sem α} {w:World} (h1:∀ cs,v ≠ .agg cs) (h2:∀ cs,v ≠ .tuple cs) (hc:w.cell? a=some u) (hf:w.frozen? a=false):(Sem.store m a v k).run P w=k.run P (w.setCell a v):=by
 rw [Sem.run.eq_def]
 cases v <;> first | exact absurd rfl (h1 _) | exact absurd rfl (h2 _) | simp [hc,hf]
theorem ma {P:Program} {n0:Nat} {α:Type} {F:HL} (s:Sem α):∀ (ss ss':SS) (x:α) (w:World),cg P n0 s ss=some (x,ss') ->
  (∀ p ∈ ss'.eq,p.1=p.2) -> (∀ p ∈ ss'.ob,p) -> Rel (ss.h++F) w -> (∀ y ∈ ss.r,y ∈ F) -> (ss.wr=true -> n0+ss.cnt=w.heap.size) ->
  ∃ w',s.run P w=.ok x w' /\ Rel (ss'.h++F) w' /\ Below 0 w w' /\ (ss.wr=true -> n0+ss'.cnt=w'.heap.size) /\ (ss.wr=false -> w'=w):=by
 induction s with
 | pure a=>intro ss ss' x w h _ _ hR _ hn;rw [cg] at h;cases h;exact ⟨w,rfl,hR,Below.refl _ _,hn,λ _=>rfl⟩
 | load m a k ih =>
  intro ss ss' x w h heq hob hR hr hn
  rw [cg] at h
  have hown:∀ (p b:Nat) (bl:Blk),ss.h[p]?=some (b,bl) -> w.heap[b]?=some bl.den:=λ p b bl hp=>hR.holds (b,bl) (List.mem_append_left _ (List.mem_of_getElem? hp))
  have hro:∀ (p b:Nat) (bl:Blk),ss.r[p]?=some (b,bl) -> w.heap[b]?=some bl.den:=λ p b bl hp=>hR.holds (b,bl) (List.mem_append_right _ (hr _ (List.mem_of_getElem? hp)))
  split at h
  case h_5=>cases h
  ·split at h
   case h_2=>cases h
   rename_i hp
   split at h
   case h_2=>cases h
   obtain ⟨k1,k2,k3⟩:=dj _ _ _ _ h
   rename_i v hs hv
   have hc:=mO (hown _ _ _ hp) (heq _ (k1 _ (List.mem_cons_self))) hs hv
   obtain ⟨w',h1,h2,h3,h4,h5⟩:=ih _ _ _ _ w h heq hob hR hr hn
   exact ⟨w',by rw [Sem.run,hc];exact h1,h2,h3,h4,h5⟩
  ·split at h
   case h_2=>cases h
   rename_i hp
   split at h
   case h_2=>cases h
   obtain ⟨k1,k2,k3⟩:=dj _ _ _ _ h
   rename_i hs hv
   obtain ⟨o1,o2⟩:=hob _ (k2 _ (List.mem_cons_self))
   have hc:=gX (hown _ _ _ hp) (heq _ (k1 _ (List.mem_cons_self))) hs o1 o2 (by simpa using hv)
   obtain ⟨w',h1,h2,h3,h4,h5⟩:=ih _ _ _ _ w h heq hob hR hr hn
   exact ⟨w',by rw [Sem.run,hc];exact h1,h2,h3,h4,h5⟩
  ·split at h
   case h_2=>cases h
   rename_i hp
   split at h
   case h_2=>cases h
   obtain ⟨k1,k2,k3⟩:=dj _ _ _ _ h
   rename_i v hs hv
   have hc:=mO (hro _ _ _ hp) (heq _ (k1 _ (List.mem_cons_self))) hs hv
   obtain ⟨w',h1,h2,h3,h4,h5⟩:=ih _ _ _ _ w h heq hob hR hr hn
   exact ⟨w',by rw [Sem.run,hc];exact h1,h2,h3,h4,h5⟩
  ·split at h
   case h_2=>cases h
   rename_i hp
   split at h
   case h_2=>cases h
   obtain ⟨k1,k2,k3⟩:=dj _ _ _ _ h
   rename_i hs hv
   obtain ⟨o1,o2⟩:=hob _ (k2 _ (List.mem_cons_self))
   have hc:=gX (hro _ _ _ hp) (heq _ (k1 _ (List.mem_cons_self))) hs o1 o2 (by simpa using hv)
   obtain ⟨w',h1,h2,h3,h4,h5⟩:=ih _ _ _ _ w h heq hob hR hr hn
   exact ⟨w',by rw [Sem.run,hc];exact h1,h2,h3,h4,h5⟩
 | store m a v k ih =>
  intro ss ss' x w h heq hob hR hr hn
  rw [cg.eq_def] at h
  dsimp only at h
  split at h
  ·cases h
  ·cases h
  ·rename_i hv1 hv2
   have hown:∀ (p b:Nat) (bl:Blk),ss.h[p]?=some (b,bl) -> w.heap[b]?=some bl.den:=λ p b bl hp=>hR.holds (b,bl) (List.mem_append_left _ (List.mem_of_getElem? hp))
   split at h
   case h_3=>cases h
   ·split at h
    case h_2=>cases h
    rename_i hp
    split at h
    case h_2=>cases h
    rename_i hs hlt hz
    split at h
    ·cases h
    rename_i hwr
    obtain ⟨k1,k2,k3⟩:=dj _ _ _ _ h
    have ha:=heq _ (k1 _ (List.mem_cons_self))
    have hlt':a.off < _:=of_decide_eq_true hlt
    have hc:=mO (hown _ _ _ hp) ha hs (List.getElem?_eq_getElem hlt')
    have hf:=nI (hown _ _ _ hp) ha (by simpa using hz)
    have hR':=hR.store (v:=v) hp ha (λ W hW=>oJ ha hs hW)
    obtain ⟨w',h1,h2,h3,h4,-⟩:=ih _ _ _ (w.setCell a v) h heq hob hR' hr (λ e=>by simpa [World.setCell] using hn e)
    exact ⟨w',by rw [rZ (λ cs e=>hv1 cs e) (λ cs e=>hv2 cs e) hc hf];exact h1,h2,((Below.refl 0 w).setCell (Nat.zero_le _) v).trans h3,h4,λ e=>by rw [hwr] at e;cases e⟩
   ·split at h
    case h_2=>cases h
    rename_i hp
    split at h
    case h_2=>cases h
    rename_i hs hlt hz
    split at h
    ·cases h
    rename_i hwr
    obtain ⟨k1,k2,k3⟩:=dj _ _ _ _ h
    have ha:=heq _ (k1 _ (List.mem_cons_self))
    obtain ⟨o1,o2⟩:=hob _ (k2 _ (List.mem_cons_self))
    have hk:_ < _:=of_decide_eq_true hlt
    have hc:=gX (hown _ _ _ hp) ha hs o1 o2 hk
    have hf:=nI (hown _ _ _ hp) ha (by simpa using hz)
    have hR':=hR.store (v:=v) hp ha (λ W hW=>tC ha hs o1 o2 hk hW)
    obtain ⟨w',h1,h2,h3,h4,-⟩:=ih _ _ _ (w.setCell a v) h heq hob hR' hr (λ e=>by simpa [World.setCell] using hn e)
    exact ⟨w',by rw [rZ (λ cs e=>hv1 cs e) (λ cs e=>hv2 cs e) hc hf];exact h1,h2,((Below.refl 0 w).setCell (Nat.zero_le _) v).trans h3,h4,λ e=>by rw [hwr] at e;cases e⟩
 | new o k ih =>
  intro ss ss' x w h heq hob hR hr hn
  rw [cg.eq_def] at h
  dsimp only at h
  have hb:∀ o':Obj,Below 0 w { w with heap:=w.heap.push o' }:=λ o'=>⟨rfl,rfl,rfl,by simp,λ k hk=>by omega⟩
  split at h
  ·cases h
  rename_i hwr
  replace hn:=hn hwr
  split at h
  ·rename_i c ty fz
   have hR':=hR.cons (.lit c.toList ty fz) (o:=.cells c ty fz) (by simp [Blk.den])
   rw [<- hn] at hR'
   obtain ⟨w',h1,h2,h3,h4,-⟩:=ih _ _ _ _ _ h heq hob hR' hr (λ _=>by simp;omega)
   refine ⟨w',?_,h2,(hb _).trans h3,h4,λ e=>by rw [hwr] at e;cases e⟩
   rw [Sem.run,<- hn];exact h1
  ·have hR':=hR.cons (.obj o) (o:=o) rfl
   rw [<- hn] at hR'
   obtain ⟨w',h1,h2,h3,h4,-⟩:=ih _ _ _ _ _ h heq hob hR' hr (λ _=>by simp;omega)
   refine ⟨w',?_,h2,(hb _).trans h3,h4,λ e=>by rw [hwr] at e;cases e⟩
   rw [Sem.run,<- hn];exact h1
 | program k ih =>
  intro ss ss' x w h heq hob hR hr hn
  rw [cg] at h
  obtain ⟨w',h1,h2,h3,h4,h5⟩:=ih _ _ _ _ w h heq hob hR hr hn
  exact ⟨w',by rw [Sem.run];exact h1,h2,h3,h4,h5⟩
 | mark m k ih =>
  intro ss ss' x w h heq hob hR hr hn
  rw [cg] at h
  obtain ⟨w',h1,h2,h3,h4,h5⟩:=ih _ _ _ w h heq hob hR hr hn
  exact ⟨w',by rw [Sem.run];exact h1,h2,h3,h4,h5⟩
 | getObj r k ih =>
  intro ss ss' x w h heq hob hR hr hn
  rw [cg.eq_def] at h
  dsimp only at h
  split at h
  case h_2=>cases h
  split at h
  case h_2=>cases h
  rename_i hp
  split at h
  ·cases h
  rename_i o hno
  obtain ⟨k1,k2,k3⟩:=dj _ _ _ _ h
  have ha:=heq _ (k1 _ (List.mem_cons_self))
  simp only at ha
  have hb:=hR.holds _ (List.mem_append_left _ (List.mem_of_getElem? hp))
  simp only [Blk.den] at hb
  obtain ⟨w',h1,h2,h3,h4,h5⟩:=ih _ _ _ _ w h heq hob hR hr hn
  refine ⟨w',?_,h2,h3,h4,h5⟩
  rw [Sem.run.eq_def]
  simp only [ha,hb]
  exact h1
 | setObj r o k ih =>
  intro ss ss' x w h heq hob hR hr hn
  rw [cg.eq_def] at h
  dsimp only at h
  split at h
  case h_2=>cases h
  split at h
  case h_2=>cases h
  rename_i hp hwr
  split at h
  ·cases h
  rename_i o' hno
  obtain ⟨k1,k2,k3⟩:=dj _ _ _ _ h
  have ha:=heq _ (k1 _ (List.mem_cons_self))
  simp only at ha
  have hb:=hR.holds _ (List.mem_append_left _ (List.mem_of_getElem? hp))
  simp only [Blk.den] at hb
  have hlt:=de hb
  have hR':=hR.upd (w':={ w with heap:=w.heap.setIfInBounds r o }) (bl':=.obj o) hp (by
   subst ha
   show (w.heap.setIfInBounds r o)[r]?=_
   rw [Array.getElem?_setIfInBounds_self_of_lt hlt];rfl) (λ k' hk=>by
   subst ha
   show (w.heap.setIfInBounds r o)[k']?=_
   rw [Array.getElem?_setIfInBounds_ne (λ e=>hk e.symm)])
  have hB':Below 0 w { w with heap:=w.heap.setIfInBounds r o }:=⟨rfl,rfl,rfl,by simp,λ k hk=>by omega⟩
  obtain ⟨w',h1,h2,h3,h4,-⟩:=ih _ _ _ { w with heap:=w.heap.setIfInBounds r o } h heq hob hR' hr (λ e=>by simpa using hn e)
  refine ⟨w',?_,h2,hB'.trans h3,h4,λ e=>by rw [hwr] at e;cases e⟩
  rw [Sem.run.eq_def]
  simp only [ha,hb]
  rw [ha] at h1;exact h1
 | _=>intro ss ss' x w h;simp [cg] at h
abbrev FL:=List (Nat × Value)
structure Fm (N:Nat) (D:List Deferred) (L:FL) (a:Act):Prop where
 size:a.tmps.size=N
 defs:a.defers=D
 has:∀ t v,L.lookup t=some v -> a.tmps[t]?=some v
def iT (L:FL):Operand -> Value
 | .tmp t=>(L.lookup t).getD undef
 | .const v=>v
 | .global g=>.pointer (some ⟨g,0,none⟩)
 | .func f=>.func (.func f) #[] #[]
def lM (L:FL):Operand -> Bool
 | .tmp t=>(L.lookup t).isSome
 | _=>true
theorem Fm.eval {N:Nat} {D:List Deferred} {L:FL} {a:Act} (h:Fm N D L a) {x:Operand} (hx:lM L x=true):a.eval x=iT L x:=by
 cases x with
 | tmp t =>
  simp only [lM,Option.isSome_iff_exists] at hx
  obtain ⟨v,hv⟩:=hx
  simp [Act.eval,iT,hv,h.has t v hv]
 | _=>rfl
def cf:Op -> Option (List Operand)
 | .alloc _=>some []
 | .move x | .assign x | .box _ x | .load _ x | .nilCheck x | .unOp _ _ x | .convert _ _ x | .sliceToArrayPointer _ x | .makeInterface _ x | .fieldAddr _ x _ | .field _ x _ | .typeAssert x _ _ _ | .extract x _ | .range _ x | .next x _=>some [x]
 | .pick c a b=>some [c,a,b]
 | .build _ ps | .buildSlice _ _ ps=>some (ps.toList.map (·.2))
 | .store _ a v | .binOp _ _ a v _ | .makeSlice _ a v | .indexAddr _ a v | .index _ a v | .lookup _ a v _=>some [a,v]
 | .makeFunc _ first captured=>some (first.toList++captured.toList)
 | .makeMap _ r=>some r.toList
 | .slice _ x l h m=>some (x :: (l.toList++(h.toList++m.toList)))
 | .mapUpdate _ m k v=>some [m,k,v]
 | .insert _ m k v=>some [m,k,v]
 | .call c=>some ((match c.callee with | .value f=>[f] | .invoke r _=>[r] | .builtin _=>[])++c.args.toList)
 | _=>none
theorem r6 {o:Op} {l:List Operand} (h:cf o=some l):(∀ x ∈ o.operands,x ∈ l) /\ ∀ cs b,o ≠ .select cs b:=by
 cases o <;> simp only [cf,Option.some.injEq,reduceCtorEq] at h <;> subst h <;> refine ⟨?_,by simp⟩ <;> intro x hx <;> simp [Op.operands,Call.operands] at hx ⊢ <;>
  first
   | done
   | exact hx
   | (rename_i c;obtain ⟨callee,args,ats⟩:=c;cases callee <;> simp_all)
   | skip
def ii (o:Op) (L:FL):Bool:=match cf o with
 | some l=>l.all (lM L)
 | none=>false
theorem Fm.exec {N:Nat} {D:List Deferred} {L:FL} {a:Act} (h:Fm N D L a) {o:Oper} (ho:ii o.op L=true):execOp a.eval o=execOp (iT L) o:=by
 unfold ii at ho
 split at ho
 ·rename_i l hl
  obtain ⟨h1,h2⟩:=r6 hl
  exact execOp_congr o h2 λ x hx=>h.eval (List.all_eq_true.1 ho x (h1 x hx))
 ·cases ho
def eS (N:Nat) (dst:Option Tmp) (v:Value) (L:FL):Option FL:=match dst with
 | none=>some L
 | some d=>match decide (d < N) with
  | true=>some ((d,v) :: L)
  | false=>none
theorem Fm.put {N:Nat} {D:List Deferred} {L L':FL} {a:Act} (h:Fm N D L a) {dst:Option Tmp} {v:Value} (hp:eS N dst v L=some L'):Fm N D L' (a.put dst v):=by
 unfold eS at hp
 cases dst with
 | none=>cases hp;exact h
 | some d =>
  simp only at hp
  split at hp
  ·rename_i hd
   cases hp
   have hd':d < N:=of_decide_eq_true hd
   refine ⟨by simp [Act.put,h.size],h.defs,?_⟩
   intro t u ht
   simp only [Act.put]
   rw [List.lookup_cons] at ht
   by_cases e:t=d
   ·subst e
    simp at ht
    subst ht
    rw [Array.getElem?_setIfInBounds_self_of_lt (by rw [h.size];exact hd')]
   ·rw [Array.getElem?_setIfInBounds_ne (λ e'=>e e'.symm)]
    have:(t == d)=false:=by simpa using e
    rw [this] at ht
    exact h.has t u ht
  ·cases hp
def r7 (keys:List Nat) (L:FL):Option FL:=match keys with
 | []=>some []
 | t :: ks=>match L.lookup t,r7 ks L with
  | some v,some l=>some ((t,v) :: l)
  | _,_=>none
theorem mP {L:FL}:∀ {keys:List Nat} {L':FL},r7 keys L=some L' -> ∀ t v,L'.lookup t=some v -> L.lookup t=some v
 | [],L',h,t,v,hl=>by rw [r7] at h;cases h;cases hl
 | k :: ks,L',h,t,v,hl=>by
  rw [r7] at h
  split at h
  ·rename_i u l hu hp
   cases h
   rw [List.lookup_cons] at hl
   by_cases e:t=k
   ·subst e;simp at hl;subst hl;exact hu
   ·have:(t == k)=false:=by simpa using e
    rw [this] at hl
    exact mP hp t v hl
  ·cases h
theorem Fm.pick {N:Nat} {D:List Deferred} {L L':FL} {a:Act} (h:Fm N D L a) {keys:List Nat} (hp:r7 keys L=some L'):Fm N D L' a :=
 ⟨h.size,h.defs,λ t v ht=>h.has t v (mP hp t v ht)⟩
def Dx (a:Addr) (n:Nat):Addr:=⟨a.block,a.off+n,none⟩
theorem pR {a:Addr} (h:a.spot=none) (n:Nat):a.add n=Dx a n:=by
 unfold Addr.add Dx
 split
 ·subst n;cases a;simp at h;subst h;rfl
 ·rfl
def HB (ρ:Operand -> Value) (x:Option Operand) (n d:Nat):Prop:=match x with
 | some v=>match ρ v with
  | .int _ z=>z=(n:Int)
  | _=>False
 | none=>n=d
theorem md {P:Program} {ρ:Operand -> Value} {lo hi:Option Operand} {l h len cap:Nat} (o1:HB ρ lo l 0) (o2:HB ρ hi h len) (o3:l <= h) (o4:h <= cap) (W:World) :
  (Instr.sliceBounds true len cap (lo.map ρ) (hi.map ρ) none).run P W=.ok (l,h,cap) W:=by
 have b1:∀ (k:IntKind) (y n:Nat) (c:BoundsCode),n <= y -> (Instr.sliceBound (.int k (n:Int)) y c).run P W=.ok n W:=by
  intro k y n c hny
  simp [Instr.sliceBound,asIntOf,hny,go_sem]
 have g:∀ (x:Option Operand) (n d:Nat),HB ρ x n d -> (x=none /\ n=d) \/ ∃ v k,x=some v /\ ρ v=.int k (n:Int):=by
  intro x n d hb
  cases x with
  | none=>exact .inl ⟨rfl,hb⟩
  | some v =>
   right
   unfold HB at hb
   simp only at hb
   cases hv:ρ v <;> rw [hv] at hb <;> simp only at hb
   exact ⟨v,_,rfl,by rw [hv,hb]⟩
 unfold Instr.sliceBounds
 rcases g _ _ _ o1 with ⟨rfl,rfl⟩ | ⟨v,k,rfl,hv⟩ <;> rcases g _ _ _ o2 with ⟨rfl,rfl⟩ | ⟨v',k',rfl,hv'⟩
 ·simp [Sem.run_bind]
 ·simp [Sem.run_bind,hv',b1,o4]
 ·simp [Sem.run_bind,hv,b1,o3]
 ·simp [Sem.run_bind,hv,hv',b1,o3,o4]
def zz (P:Program) (t:TypeId) (cs:Array Value) (off:Nat):Option Value:=match P.underlying t with
 | some (.struct _)=>match P.info? t with
  | some i=>some (.agg (cs.extract off (off+i.size)))
  | none=>none
 | some (.array _ _)=>match P.info? t with
  | some i=>some (.agg (cs.extract off (off+i.size)))
  | none=>none
 | some _=>cs[off]?
 | none=>none
def Ma (P:Program) (rec:TypeId -> Value -> Value -> Option Bool) (xs ys:Array Value):List Field -> Option Bool
 | []=>some true
 | f :: fs=>match decide (f.name="_") with
  | true=>Ma P rec xs ys fs
  | false=>match zz P f.type xs f.offset,zz P f.type ys f.offset with
   | some a,some b=>match rec f.type a b,Ma P rec xs ys fs with
    | some r,some r'=>some (r && r')
    | _,_=>none
   | _,_=>none
def LZ (P:Program):Nat -> TypeId -> Value -> Value -> Option Bool
 | 0,_,_,_=>none
 | d+1,t,x,y=>match P.underlying t,x,y with
  | some (.int _),.int k a,.int k' b=>match decide (k=k') with
   | true=>some (decide (a=b))
   | false=>none
  | some .bool,.bool a,.bool b=>some (a == b)
  | some (.struct fs),.agg xs,.agg ys=>match P.stoodInHeld t with
   | false=>Ma P (LZ P d) xs ys fs.toList
   | true=>none
  | _,_,_=>none
theorem uC {P:Program} {t:TypeId} {cs:Array Value} {off:Nat} {v:Value} (h:zz P t cs off=some v) (w:World):(part t cs off).run P w=.ok v w:=by
 have und:∀ d,P.underlying t=some d -> ∀ W,(underlying t).run P W=.ok d W:=λ d hd W=>by simp [underlying,program,bind,Sem.bind,Sem.run,hd,pure]
 have inf:∀ i,P.info? t=some i -> ∀ W,(typeInfo t).run P W=.ok i W:=λ i hd W=>by simp [typeInfo,program,bind,Sem.bind,Sem.run,hd,pure]
 unfold zz at h
 split at h
 ·rename_i fs hu
  split at h
  ·rename_i i hi
   cases h
   simp [part,isAgg,Sem.run_bind,und _ hu,sizeOf,inf _ hi]
  ·cases h
 ·rename_i n e hu
  split at h
  ·rename_i i hi
   cases h
   simp [part,isAgg,Sem.run_bind,und _ hu,sizeOf,inf _ hi]
  ·cases h
 ·rename_i d h1 h2 hu
  have hag:(isAgg t).run P w=.ok false w:=by
   unfold isAgg
   rw [Sem.run_bind,und _ hu]
   simp only [Result.andThen_ok]
   cases d <;> first | rfl | exact (h1 _ rfl).elim | exact (h2 _ _ rfl).elim
  simp [part,Sem.run_bind,hag,h]
 ·cases h
theorem zA {P:Program}:∀ (d:Nat) (t:TypeId) (x y:Value) (b:Bool) (w:World),LZ P d t x y=some b -> (Op.equalIn d t x y).run P w=.ok b w
 | 0,t,x,y,b,w,h=>by simp [LZ] at h
 | d+1,t,x,y,b,w,h=>by
  unfold LZ at h
  split at h
  case h_1 =>
   rename_i k1 k a k' b' hu
   split at h
   ·rename_i hk
    cases h
    have:k=k':=of_decide_eq_true hk
    subst this
    rw [run_equalIn_int w d t k k1 a b' hu]
    rfl
   ·cases h
  case h_2 =>
   rename_i a b' hu
   cases h
   exact run_equalIn_bool' w d t a b' hu
  case h_3 =>
   rename_i fs xs ys hu
   split at h
   ·rename_i hs
    have hf:P.fieldsOf t=fs:=by simp [Program.fieldsOf,hu]
    rw [run_equalIn_agg w d t xs ys (by rw [hf];exact hu) hs,hf]
    revert h
    generalize fs.toList=l
    clear hu hf
    induction l generalizing b with
    | nil=>intro h;simp [Ma] at h;subst h;simp [Op.eqFields]
    | cons f fs ih =>
     intro h
     rw [Ma] at h
     split at h
     ·rename_i hn
      have hn':f.name="_":=of_decide_eq_true hn
      rw [Op.eqFields,if_neg (by simp [hn'])]
      exact ih _ h
     ·rename_i hn
      have hn':¬ f.name="_":=of_decide_eq_false hn
      split at h
      ·rename_i u v hu hv
       split at h
       ·rename_i r r' hr hr'
        cases h
        rw [Op.eqFields,if_pos hn']
        simp only [Sem.run_bind,uC hu,uC hv,Result.andThen_ok,zA d _ _ _ _ w hr]
        cases r
        ·simp
        ·simpa using ih _ hr'
       ·cases h
      ·cases h
   ·cases h
  case h_4=>cases h
def Dy (s:ByteArray) (j:Nat):Int:=((s[j]?).getD 0).toNat
theorem mQ {P:Program} {α:Type} (k:Program -> Sem α) (w:World):((program >>= k):Sem α).run P w=(k P).run P w:=rfl
theorem dX {P:Program} {t:TypeId} {i:TypeInfo} (h:P.info? t=some i) (w:World):(typeInfo t).run P w=.ok i w:=by
 simp [typeInfo,program,bind,Sem.bind,Sem.run,h,pure]
theorem aP {P:Program} {t:TypeId} {i:TypeDesc} (h:P.underlying t=some i) (w:World):(underlying t).run P w=.ok i w:=by
 simp [underlying,program,bind,Sem.bind,Sem.run,h,pure]
theorem Dz {a b:ByteArray}:(a == b)=true ↔ a=b:=by
 obtain ⟨a⟩:=a
 obtain ⟨b⟩:=b
 show (a == b)=true ↔ _
 simp
theorem HC (a:ByteArray):(a == a)=true:=Dz.2 rfl
def uD:Nat -> List (ByteArray × Value) -> List MapEntry
 | _,[]=>[]
 | i,(k,v) :: l=>{ key:=.string k,val:=v,born:=i } :: uD (i+1) l
abbrev DA (kv:List (ByteArray × Value)):Obj:=.map ⟨uD 0 kv⟩ kv.length
def tD:List (ByteArray × Value) -> ByteArray -> Option Value
 | [],_=>none
 | (k',v) :: l,k=>if (k == k')=true then some v else tD l k
def xD:List (ByteArray × Value) -> ByteArray -> Nat -> Option (Nat × Value)
 | [],_,_=>none
 | (k',v) :: l,k,i=>if (k == k')=true then some (i,v) else xD l k (i+1)
theorem r8 (k:ByteArray):∀ (kv:List (ByteArray × Value)) (b i:Nat),Instr.findNow .string (.string k) (uD b kv) i=some (xD kv k i)
 | [],_,_=>rfl
 | (k',v) :: l,b,i=>by
  rw [uD,Instr.findNow,xD]
  simp only [Instr.sameNow]
  cases h:(k == k') with
  | true=>simp
  | false=>simp [r8 k l (b+1) (i+1)]
theorem uE (k:ByteArray):∀ (kv:List (ByteArray × Value)) (i:Nat),(xD kv k i).map (·.2)=tD kv k
 | [],_=>rfl
 | (k',v) :: l,i=>by
  rw [xD,tD]
  split
  ·rfl
  ·exact uE k l (i+1)
theorem Bl {P:Program} {kt:TypeId} (hk:P.underlying kt=some .string) (k:ByteArray) (kv:List (ByteArray × Value)) (b:Nat) (w:World):(Instr.findKey kt (.string k) (uD b kv)).run P w=.ok (xD kv k 0) w:=by
 unfold Instr.findKey
 rw [Sem.run_bind,aP hk]
 simp only [Result.andThen,r8]
 rfl
theorem xE {P:Program} {kt:TypeId} (hk:P.underlying kt=some .string) (e:Bool) (k:ByteArray) (w:World):(Instr.checkKey e 10000 kt (.string k)).run P w=.ok () w:=by
 rw [show (10000:Nat)=9999+1 from rfl,Instr.checkKey.eq_def]
 simp only
 rw [Sem.run_bind,aP hk]
 rfl
theorem cE {P:Program} {α:Type} (a:α) (w:World):((pure a:Sem α)).run P w=.ok a w:=rfl
theorem me {P:Program} {w:World} {r:Nat} {es:Array MapEntry} {c:Nat} (h:w.heap[r]?=some (.map es c)):(getObj r).run P w=.ok (.map es c) w:=by
 unfold getObj
 rw [Sem.run.eq_def]
 simp only [h]
 rfl
theorem xF {P:Program} {w:World} {t kt et:TypeId} {b:Nat} {kv:List (ByteArray × Value)} {k:ByteArray} {z:Value} {i:TypeInfo} (ok:Bool) (ht:P.underlying t=some (.map kt et)) (hk:P.underlying kt=some .string) (hi:P.info? et=some i) (hz:i.zero=some z) (hb:w.heap[b]?=some (DA kv)) :
  (Instr.lookup t (.map (some b)) (.string k) ok).run P w=.ok (if ok=true then .tuple #[(tD kv k).getD z,.bool (tD kv k).isSome] else (tD kv k).getD z) w:=by
 unfold Instr.lookup
 rw [Sem.run_bind,aP ht]
 simp only [Result.andThen,Sem.run_bind,me hb,cE,xE hk,Bl hk]
 rw [<- uE k kv 0]
 cases h:xD kv k 0 with
 | some x =>
  obtain ⟨j,v⟩:=x
  cases ok <;> rfl
 | none =>
  simp only [zeroValue,Sem.run_bind,dX hi,Result.andThen,hz,cE]
  cases ok <;> rfl
abbrev lkV (kv:List (ByteArray × Value)) (k:ByteArray) (ok:Bool) (z:Value):Value:=if ok=true then .tuple #[(tD kv k).getD z,.bool (tD kv k).isSome] else (tD kv k).getD z
theorem DB (a b:ByteArray):(a.toList == b.toList)=decide (a=b):=by
 rw [ByteArray.toList_eq,ByteArray.toList_eq,Bool.eq_iff_iff,decide_eq_true_iff,beq_iff_eq]
 constructor
 ·intro h
  exact ByteArray.ext (Array.toList_inj.mp h)
 ·rintro rfl;rfl
def ev (P:Program) (n0:Nat) (o:Oper) (ρ:Operand -> Value) (s:SS):Option (Next × SS) :=
 match o.op with
 | .indexAddr t x ix=>match s.hints with
  | .ix j :: hs=>match P.underlying t,ρ x,ρ ix with
   | some (.slice elem),.slice (some a) len _,.int _ i=>match a.spot,P.info? elem with
    | none,some inf=>some (.value (.pointer (some (Dx a (j * inf.size)))),{ s with hints:=hs,ob:=(i=(j:Int) /\ j < len) :: s.ob })
    | _,_=>none
   | some (.array len elem),.pointer (some a),.int _ i=>match a.spot,P.info? elem with
    | none,some inf=>some (.value (.pointer (some (Dx a (j * inf.size)))),{ s with hints:=hs,ob:=(i=(j:Int) /\ j < len) :: s.ob })
    | _,_=>none
   | _,_,_=>none
  | .gen :: hs=>cg P n0 (execOp ρ o) { s with hints:=hs }
  | _=>cg P n0 (execOp ρ o) s
 | .binOp op t x y _=>match s.hints with
  | .nw :: hs=>match op,ρ x,ρ y with
   | .add,.int .i64 a,.int .i64 b=>some (.value (.int .i64 (a+b)),{ s with hints:=hs,ob:=(-9223372036854775808 <= a+b /\ a+b <= 9223372036854775807) :: s.ob })
   | .sub,.int .i64 a,.int .i64 b=>some (.value (.int .i64 (a - b)),{ s with hints:=hs,ob:=(-9223372036854775808 <= a - b /\ a - b <= 9223372036854775807) :: s.ob })
   | .mul,.int .i64 a,.int .i64 b=>some (.value (.int .i64 (a * b)),{ s with hints:=hs,ob:=(-9223372036854775808 <= a * b /\ a * b <= 9223372036854775807) :: s.ob })
   | .quo,.int .i64 a,.int .i64 b=>some (.value (.int .i64 (a / b)),{ s with hints:=hs,ob:=(0 <= a /\ 0 < b /\ a <= 9223372036854775807) :: s.ob })
   | .rem,.int .i64 a,.int .i64 b=>some (.value (.int .i64 (a % b)),{ s with hints:=hs,ob:=(0 <= a /\ 0 < b /\ a <= 9223372036854775807) :: s.ob })
   | _,_,_=>none
  | .dv :: hs=>match op,ρ x,ρ y with
   | .quo,.int .i64 a,.int .i64 b=>some (.value (.int .i64 (IntKind.i64.wrap (a.tdiv b))),{ s with hints:=hs,ob:=(b ≠ 0) :: s.ob })
   | .rem,.int .i64 a,.int .i64 b=>some (.value (.int .i64 (a.tmod b)),{ s with hints:=hs,ob:=(b ≠ 0) :: s.ob })
   | .shl,.int k a,.int _ b=>some (.value (.int k (k.wrap (a * 2 ^ min b.toNat k.bits))),{ s with hints:=hs,ob:=(0 <= b) :: s.ob })
   | .shr,.int k a,.int _ b=>some (.value (.int k (a.fdiv (2 ^ min b.toNat k.bits))),{ s with hints:=hs,ob:=(0 <= b) :: s.ob })
   | _,_,_=>none
  | .sq :: hs=>match op,ρ x,ρ y with
   | .eql,.agg xs,.agg ys=>match P.eqGuardType P.depth t,LZ P 10000 t (.agg xs) (.agg ys) with
    | false,some b=>some (.value (.bool b),{ s with hints:=hs })
    | _,_=>none
   | .neq,.agg xs,.agg ys=>match P.eqGuardType P.depth t,LZ P 10000 t (.agg xs) (.agg ys) with
    | false,some b=>some (.value (.bool (!b)),{ s with hints:=hs })
    | _,_=>none
   | .eql,.string a,.string b=>some (.value (.bool (decide (a=b))),{ s with hints:=hs })
   | .neq,.string a,.string b=>some (.value (.bool (!decide (a=b))),{ s with hints:=hs })
   | _,_,_=>none
  | .gen :: hs=>cg P n0 (execOp ρ o) { s with hints:=hs }
  | _=>cg P n0 (execOp ρ o) s
 | .index t x ix=>match s.hints with
  | .ix j :: hs=>match P.underlying t,ρ x,ρ ix with
   | some .string,.string b,.int _ i=>some (.value (.int .u8 (Dy b j)),{ s with hints:=hs,ob:=(i=(j:Int) /\ j < b.size) :: s.ob })
   | _,_,_=>none
  | .gen :: hs=>cg P n0 (execOp ρ o) { s with hints:=hs }
  | _=>cg P n0 (execOp ρ o) s
 | .unOp op t x=>match s.hints with
  | .nw :: hs=>match op,ρ x with
   | .neg,.int .i64 a=>some (.value (.int .i64 (-a)),{ s with hints:=hs,ob:=(-9223372036854775807 <= a /\ a <= 9223372036854775808) :: s.ob })
   | _,_=>none
  | .gen :: hs=>cg P n0 (execOp ρ o) { s with hints:=hs }
  | _=>cg P n0 (execOp ρ o) s
 | .slice t x lo hi mx=>match s.hints with
  | .sl l h e :: hs=>match P.underlying t,ρ x,mx with
   | some (.slice elem),.slice a len cap,none=>match a,P.info? elem with
    | none,some inf=>some (.value (.slice none (h - l) (cap - l)),{ s with hints:=hs,ob:=(HB ρ lo l 0 /\ HB ρ hi h len /\ l <= h /\ h <= cap) :: s.ob })
    | some a,some inf=>match a.spot with
     | none=>some (.value (.slice (some (match e with | true=>a | false=>Dx a (l * inf.size))) (h - l) (cap - l)),{ s with hints:=hs,ob:=(HB ρ lo l 0 /\ HB ρ hi h len /\ l <= h /\ h <= cap /\ (match e with | true=>cap=l | false=>cap ≠ l)) :: s.ob })
     | _=>none
    | _,_=>none
   | _,_,_=>none
  | .gen :: hs=>cg P n0 (execOp ρ o) { s with hints:=hs }
  | .sl0 h :: hs=>match P.underlying t,ρ x,lo,mx with
   | some (.slice elem),.slice a len cap,none,none=>match P.info? elem with
    | some inf=>some (.value (.slice a h cap),{ s with hints:=hs,ob:=(HB ρ hi h len /\ h <= cap) :: s.ob })
    | none=>none
   | _,_,_,_=>none
  | _=>cg P n0 (execOp ρ o) s
 | .makeSlice t x y=>match s.hints with
  | .mk l c :: hs=>match P.underlying t,ρ x,ρ y with
   | some (.slice elem),.int .i64 a,.int .i64 b=>match P.info? elem with
    | some inf=>match inf.zero,s.wr with
     | some z,true=>some (.value (.slice (some ⟨n0+s.cnt,0,none⟩) l c),{ s with h:=(n0+s.cnt,.rows inf.size c (λ _ k=>z.cells.getD k default) elem (0,0)) :: s.h,cnt:=s.cnt+1,hints:=hs,ob:=(a=(l:Int) /\ b=(c:Int) /\ l <= c /\ inf.bytes * c <= 140737488355328 /\ z.cells.size=inf.size /\ c <= 9223372036854775807) :: s.ob })
     | _,_=>none
    | none=>none
   | _,_,_=>none
  | .gen :: hs=>cg P n0 (execOp ρ o) { s with hints:=hs }
  | _=>cg P n0 (execOp ρ o) s
 | .pick x a b=>match s.hints with
  | .gd c :: hs=>match ρ x with
   | .bool t=>some (.value (match c with | true=>ρ a | false=>ρ b),{ s with hints:=hs,ob:=(t=c) :: s.ob })
   | _=>none
  | .gen :: hs=>cg P n0 (execOp ρ o) { s with hints:=hs }
  | _=>cg P n0 (execOp ρ o) s
 | .lookup t x ix ok=>match s.hints with
  | .mp p kv v :: hs=>match P.underlying t,ρ x,ρ ix,s.h[p]? with
   | some (.map kt et),.map (some b),.string k,some (b',.obj O)=>match P.underlying kt,(P.info? et).bind (·.zero) with
    | some .string,some z=>some (.value v,{ s with hints:=hs,eq:=(b,b') :: s.eq,ob:=(O=DA kv /\ lkV kv k ok z=v) :: s.ob })
    | _,_=>none
   | _,_,_,_=>none
  | .mq p kv v :: hs=>match P.underlying t,ρ x,ρ ix,s.r[p]? with
   | some (.map kt et),.map (some b),.string k,some (b',.obj O)=>match P.underlying kt,(P.info? et).bind (·.zero) with
    | some .string,some z=>some (.value v,{ s with hints:=hs,eq:=(b,b') :: s.eq,ob:=(O=DA kv /\ lkV kv k ok z=v) :: s.ob })
    | _,_=>none
   | _,_,_,_=>none
  | .gen :: hs=>cg P n0 (execOp ρ o) { s with hints:=hs }
  | _=>cg P n0 (execOp ρ o) s
 | _=>cg P n0 (execOp ρ o) s
theorem dk {P:Program} {n0:Nat} {o:Oper} {ρ:Operand -> Value} {ss ss':SS} {x:Next} (h:ev P n0 o ρ ss=some (x,ss')):(∀ p ∈ ss.eq,p ∈ ss'.eq) /\ (∀ p ∈ ss.ob,p ∈ ss'.ob) /\ ss'.r=ss.r /\ ss'.wr=ss.wr:=by
 unfold ev at h
 repeat' split at h
 all_goals first
  | exact (dj _ _ _ _ h :)
  | (cases h;done)
  | (cases h;exact ⟨λ _ h=>h,λ _ h=>List.mem_cons_of_mem _ h,rfl,rfl⟩)
  | (cases h;exact ⟨λ _ h=>List.mem_cons_of_mem _ h,λ _ h=>List.mem_cons_of_mem _ h,rfl,rfl⟩)
  | (cases h;exact ⟨λ _ h=>h,λ _ h=>h,rfl,rfl⟩)
theorem uF (z:Array Value) (c:Nat):((Array.range (c * z.size)).map λ i=>z[i % z.size]!)=⟨bB z.size (λ _ k=>z.getD k default) c⟩:=by
 apply Array.ext'
 rw [Array.toList_map,Array.toList_range]
 show _=bB _ _ _
 symm
 refine ie (by simp) ?_
 intro i k hi hk
 have h1:i * z.size+k < c * z.size:=by
  have:(i+1) * z.size <= c * z.size:=Nat.mul_le_mul_right _ hi
  rw [Nat.succ_mul] at this
  omega
 rw [List.getElem?_map,List.getElem?_range h1]
 simp only [Option.map_some,Nat.mul_add_mod_self_right,Nat.mod_eq_of_lt hk]
 simp [getElem!_def,Array.getD,hk,getElem?_pos]
theorem gi {P:Program} {n0:Nat} {F:HL} {o:Oper} {ρ:Operand -> Value} {ss ss':SS} {x:Next} {w:World} (h:ev P n0 o ρ ss=some (x,ss'))
  (heq:∀ p ∈ ss'.eq,p.1=p.2) (hob:∀ p ∈ ss'.ob,p) (hR:Rel (ss.h++F) w) (hr:∀ y ∈ ss.r,y ∈ F) (hn:ss.wr=true -> n0+ss.cnt=w.heap.size) :
  ∃ w',(execOp ρ o).run P w=.ok x w' /\ Rel (ss'.h++F) w' /\ Below 0 w w' /\ (ss.wr=true -> n0+ss'.cnt=w'.heap.size) /\ (ss.wr=false -> w'=w):=by
 have g:∀ hs:List Hint,cg P n0 (execOp ρ o) { ss with hints:=hs }=some (x,ss') -> ∃ w',(execOp ρ o).run P w=.ok x w' /\ Rel (ss'.h++F) w' /\ Below 0 w w' /\ (ss.wr=true -> n0+ss'.cnt=w'.heap.size) /\ (ss.wr=false -> w'=w):=λ hs h=>by
  have h1:=ma (F:=F) (w:=w) _ _ _ _ h heq hob hR hr hn
  exact h1
 have g':cg P n0 (execOp ρ o) ss=some (x,ss') -> ∃ w',(execOp ρ o).run P w=.ok x w' /\ Rel (ss'.h++F) w' /\ Below 0 w w' /\ (ss.wr=true -> n0+ss'.cnt=w'.heap.size) /\ (ss.wr=false -> w'=w):=λ h=>by
  exact ma (F:=F) (w:=w) _ _ _ _ h heq hob hR hr hn
 unfold ev at h
 split at h
 ·-- indexAddr
  rename_i t x' ix' hop
  split at h
  case h_2=>exact g _ h
  case h_3=>exact g' h
  split at h
  ·rename_i elem a len cap k i hu hx hi
   split at h
   case h_2=>cases h
   rename_i inf hs hinf
   cases h
   obtain ⟨o1,o2⟩:=hob _ (List.mem_cons_self)
   refine ⟨w,?_,hR,Below.refl _ _,hn,λ _=>rfl⟩
   subst o1
   simp [execOp,hop,Instr.indexAt,hx,hi,asIntOf,underlying,hu,sizeOf,typeInfo,hinf,mQ,go_sem,pR hs,o2,program,bind,Sem.bind,Sem.run,pure]
  ·rename_i len elem a k i hu hx hi
   split at h
   case h_2=>cases h
   rename_i inf hs hinf
   cases h
   obtain ⟨o1,o2⟩:=hob _ (List.mem_cons_self)
   refine ⟨w,?_,hR,Below.refl _ _,hn,λ _=>rfl⟩
   subst o1
   simp [execOp,hop,Instr.indexAt,hx,hi,asIntOf,underlying,hu,sizeOf,typeInfo,hinf,mQ,go_sem,pR hs,o2,program,bind,Sem.bind,Sem.run,pure,Instr.sureAddr]
  ·cases h
 ·-- binOp
  rename_i op t x' y' ty hop
  split at h
  case h_4=>exact g _ h
  case h_5=>exact g' h
  case h_3 =>
   split at h
   case h_5=>cases h
   case h_3 =>
    rename_i a b hx hy
    cases h
    exact ⟨w,by simp [execOp,hop,hx,hy,eqGuard,Go.binOp,Op.stringOp,DB,pure,bind,Sem.bind,Sem.run],hR,Below.refl _ _,hn,λ _=>rfl⟩
   case h_4 =>
    rename_i a b hx hy
    cases h
    exact ⟨w,by simp [execOp,hop,hx,hy,eqGuard,Go.binOp,Op.stringOp,DB,bne,pure,bind,Sem.bind,Sem.run],hR,Below.refl _ _,hn,λ _=>rfl⟩
   all_goals
    rename_i xs ys hx hy
    split at h
    case h_2=>cases h
    rename_i b hg he
    cases h
    refine ⟨w,?_,hR,Below.refl _ _,hn,λ _=>rfl⟩
    have e2:=λ W=>zA _ _ _ _ _ W he
    simp [execOp,hop,hx,hy,Sem.run_bind,run_eqGuard_agg w _ t x' y' xs ys hg,run_eql_struct,run_neq_struct,e2]
  ·split at h
   case h_6=>cases h
   case h_4 =>
    rename_i a b hx hy
    cases h
    obtain ⟨o1,o2,o3⟩:=hob _ (List.mem_cons_self)
    refine ⟨w,?_,hR,Below.refl _ _,hn,λ _=>rfl⟩
    have h1:a / b <= a:=Int.ediv_le_self _ o1
    have h2:0 <= a / b:=Int.ediv_nonneg o1 (by omega)
    have hw:IntKind.i64.wrap (a.tdiv b)=a / b:=by rw [Int.tdiv_eq_ediv_of_nonneg o1,IntKind.wrap_i64];omega
    have o4:¬ b=0:=by omega
    simp [execOp,hop,hx,hy,eqGuard,Go.binOp,Op.intDiv,o4,hw,pure,bind,Sem.bind,Sem.run]
   case h_5 =>
    rename_i a b hx hy
    cases h
    obtain ⟨o1,o2,o3⟩:=hob _ (List.mem_cons_self)
    refine ⟨w,?_,hR,Below.refl _ _,hn,λ _=>rfl⟩
    have hw:a.tmod b=a % b:=Int.tmod_eq_emod_of_nonneg o1
    have o4:¬ b=0:=by omega
    simp [execOp,hop,hx,hy,eqGuard,Go.binOp,Op.intDiv,o4,hw,pure,bind,Sem.bind,Sem.run]
   all_goals
    rename_i a b hx hy
    cases h
    have o1:=hob _ (List.mem_cons_self)
    refine ⟨w,?_,hR,Below.refl _ _,hn,λ _=>rfl⟩
    have hw:∀ z:Int,-9223372036854775808 <= z /\ z <= 9223372036854775807 -> IntKind.i64.wrap z=z:=λ z hz=>by rw [IntKind.wrap_i64];omega
    simp [execOp,hop,hx,hy,eqGuard,Go.binOp,Op.intArith,hw _ o1,pure,bind,Sem.bind,Sem.run]
  ·split at h
   case h_5=>cases h
   case h_3 =>
    rename_i k a yk b hx hy
    cases h
    have o1:¬ b < 0:=by have:0 <= b:=hob _ (List.mem_cons_self);omega
    refine ⟨w,?_,hR,Below.refl _ _,hn,λ _=>rfl⟩
    simp [execOp,hop,hx,hy,eqGuard,Go.binOp,Op.shift,o1,pure,bind,Sem.bind,Sem.run]
   case h_4 =>
    rename_i k a yk b hx hy
    cases h
    have o1:¬ b < 0:=by have:0 <= b:=hob _ (List.mem_cons_self);omega
    refine ⟨w,?_,hR,Below.refl _ _,hn,λ _=>rfl⟩
    simp [execOp,hop,hx,hy,eqGuard,Go.binOp,Op.shift,o1,pure,bind,Sem.bind,Sem.run]
   all_goals
    rename_i a b hx hy
    cases h
    have o1:b ≠ 0:=hob _ (List.mem_cons_self)
    refine ⟨w,?_,hR,Below.refl _ _,hn,λ _=>rfl⟩
    simp [execOp,hop,hx,hy,eqGuard,Go.binOp,Op.intDiv,o1,pure,bind,Sem.bind,Sem.run]
 ·-- index
  rename_i t x' ix' hop
  split at h
  case h_2=>exact g _ h
  case h_3=>exact g' h
  split at h
  case h_2=>cases h
  rename_i b k i hu hx hi
  cases h
  obtain ⟨o1,o2⟩:=hob _ (List.mem_cons_self)
  refine ⟨w,?_,hR,Below.refl _ _,hn,λ _=>rfl⟩
  subst o1
  have k3:=λ W=>aP hu W
  simp [execOp,hop,Instr.index,hx,hi,asIntOf,k3,Sem.run_bind,o2,Dy]
 ·-- unOp
  rename_i op t x' hop
  split at h
  case h_2=>exact g _ h
  case h_3=>exact g' h
  split at h
  case h_2=>cases h
  rename_i a hx
  cases h
  have o1:=hob _ (List.mem_cons_self)
  refine ⟨w,?_,hR,Below.refl _ _,hn,λ _=>rfl⟩
  have hw:IntKind.i64.wrap (-a)=-a:=by rw [IntKind.wrap_i64];omega
  simp [execOp,hop,hx,Op.unary,Op.intArith,hw,pure,bind,Sem.bind,Sem.run]
 ·-- slice
  rename_i t x' lo hi mx hop
  split at h
  case h_2=>exact g _ h
  case h_4=>exact g' h
  case h_3 =>
   rename_i hh hs hhints
   split at h
   case h_2=>cases h
   rename_i elem a len cap hu hx
   split at h
   case h_2=>cases h
   rename_i inf hinf
   cases h
   obtain ⟨o2,o4⟩:=hob _ (List.mem_cons_self)
   refine ⟨w,?_,hR,Below.refl _ _,hn,λ _=>rfl⟩
   have k1:=md (P:=P) (ρ:=ρ) (lo:=none) (hi:=hi) (l:=0) (h:=hh) (len:=len) (cap:=cap) rfl o2 (Nat.zero_le _) o4 w
   have k2:=λ W=>dX hinf W
   have k3:=λ W=>aP hu W
   have ea:(if cap=0 then a else Option.map (λ x=>x.add 0) a)=a:=by
    split
    ·rfl
    ·cases a <;> simp [Addr.add]
   rw [show Option.map ρ none=none from rfl] at k1
   simp [execOp,hop,Instr.sliceAt,Instr.slice,hx,k3,sizeOf,k2,Sem.run_bind,k1,ea]
  rename_i l hh e hs hhints
  split at h
  case h_2=>cases h
  rename_i elem a len cap hu hx
  split at h
  case h_3=>cases h
  ·rename_i inf hinf
   cases h
   obtain ⟨o1,o2,o3,o4⟩:=hob _ (List.mem_cons_self)
   refine ⟨w,?_,hR,Below.refl _ _,hn,λ _=>rfl⟩
   have k1:=md (P:=P) o1 o2 o3 o4 w
   have k2:=λ W=>dX hinf W
   have k3:=λ W=>aP hu W
   simp [execOp,hop,Instr.sliceAt,Instr.slice,hx,k3,sizeOf,k2,Sem.run_bind,k1]
  ·rename_i a inf hinf
   split at h
   case h_2=>cases h
   rename_i hsp
   cases h
   obtain ⟨o1,o2,o3,o4,o5⟩:=hob _ (List.mem_cons_self)
   refine ⟨w,?_,hR,Below.refl _ _,hn,λ _=>rfl⟩
   have k1:=md (P:=P) o1 o2 o3 o4 w
   have k2:=λ W=>dX hinf W
   have k3:=λ W=>aP hu W
   cases e
   ·simp only at o5 ⊢
    simp [execOp,hop,Instr.sliceAt,Instr.slice,hx,k3,sizeOf,k2,Sem.run_bind,k1,o5,pR hsp]
   ·simp only at o5 ⊢
    subst o5
    simp [execOp,hop,Instr.sliceAt,Instr.slice,hx,k3,sizeOf,k2,Sem.run_bind,k1]
 ·-- makeSlice
  rename_i t x' y' hop
  split at h
  case h_2=>exact g _ h
  case h_3=>exact g' h
  rename_i l c hs hhints
  split at h
  case h_2=>cases h
  rename_i elem a b hu hx hy
  split at h
  case h_2=>cases h
  rename_i inf hinf
  split at h
  case h_2=>cases h
  rename_i z hz hwr
  cases h
  replace hn:=hn hwr
  obtain ⟨o1,o2,o3,o4,o5,o6⟩:=hob _ (List.mem_cons_self)
  subst o1;subst o2
  have hl:IntKind.i64.wrap (l:Int)=l:=by rw [IntKind.wrap_i64];omega
  have hc:IntKind.i64.wrap (c:Int)=c:=by rw [IntKind.wrap_i64];omega
  have hR':=hR.cons (.rows inf.size c (λ _ k=>z.cells.getD k default) elem (0,0)) (o:=.cells ⟨bB inf.size (λ _ k=>z.cells.getD k default) c⟩ elem (0,0)) rfl
  rw [<- hn] at hR'
  refine ⟨_,?_,hR',⟨rfl,rfl,rfl,by simp,λ k hk=>by omega⟩,λ _=>by simp;omega,λ e=>by rw [hwr] at e;cases e⟩
  have hbig:¬ ((281474976710656:Int) < (inf.bytes:Int) * (c:Int)):=by
   have:((inf.bytes * c:Nat):Int)=(inf.bytes:Int) * (c:Int):=by simp
   rw [<- this];omega
  have hroom:¬ (roomBytes < c * inf.bytes):=by unfold roomBytes;rw [Nat.mul_comm];omega
  have hlc:¬ ((c:Int) < l):=by omega
  have hl0:¬ ((l:Int) < 0):=by omega
  have hc0:¬ ((c:Int) < 0):=by omega
  have k2:=λ W=>dX hinf W
  have k3:=λ W=>aP hu W
  by_cases h0:c * inf.size=0
  ·have he:∀ g,bB inf.size g c=[]:=λ g=>by
    apply List.eq_nil_of_length_eq_zero;rw [cO];exact h0
   have hr0:∀ f:Nat -> Value,Array.map f (Array.range 0)=⟨[]⟩:=λ f=>by simp
   simp [execOp,hop,Instr.makeSlice,hx,hy,k3,sizeOf,k2,zeroValue,hz,Sem.run_bind,asInt,asIntOf,hl,hc,hbig,hroom,hlc,hl0,hc0,h0,askRoom,newRow,newObj,he,hr0,Sem.run,hn]
  ·have hzf:=uF z.cells c
   rw [o5] at hzf
   simp [execOp,hop,Instr.makeSlice,hx,hy,k3,sizeOf,k2,zeroValue,hz,Sem.run_bind,asInt,asIntOf,hl,hc,hbig,hroom,hlc,hl0,hc0,h0,askRoom,newRow,newObj,Sem.run,hn,o5,hzf]
 ·-- pick
  rename_i x' a' b' hop
  split at h
  case h_2=>exact g _ h
  case h_3=>exact g' h
  split at h
  case h_2=>cases h
  rename_i t ht
  cases h
  have o1:=hob _ (List.mem_cons_self)
  refine ⟨w,?_,hR,Below.refl _ _,hn,λ _=>rfl⟩
  subst o1
  cases t <;> simp [execOp,hop,ht,asBool]
 ·-- lookup
  rename_i t x' ix' ok hop
  split at h
  case h_3=>exact g _ h
  case h_4=>exact g' h
  all_goals
   split at h
   case h_2=>cases h
   rename_i kt et b k b' O hu hx hi hp
   split at h
   case h_2=>cases h
   rename_i z hk hz
   cases h
   obtain ⟨o1,o2⟩:=hob _ (List.mem_cons_self)
   have e1:b=b':=heq _ (List.mem_cons_self)
   subst o1;subst e1;subst o2
   rw [Option.bind_eq_some_iff] at hz
   obtain ⟨inf,hinf,hz⟩:=hz
   refine ⟨w,?_,hR,Below.refl _ _,hn,λ _=>rfl⟩
   have hb:w.heap[b]?=some (DA _):=hR.holds (b,.obj (DA _)) (by first | exact List.mem_append_left _ (List.mem_of_getElem? hp) | exact List.mem_append_right _ (hr _ (List.mem_of_getElem? hp)))
   have:=xF (P:=P) (w:=w) (k:=k) ok hu hk hinf hz hb
   simp only [execOp,hop,hx,hi,Sem.run_bind,this,Result.andThen]
   rfl
 ·exact g' h
end Go.Proofs.YtobflkidpfkcaaaGreatDoor
