import Derived.WalkKit
import Derived.OrdersHeld
import Derived.Deep.RegionHeld3
import Derived.KernelRfl
import Derived.Laws.StructEq
set_option maxHeartbeats 4000000
set_option maxRecDepth 100000
set_option linter.unusedSimpArgs false
set_option linter.unusedVariables false
namespace Go.Proofs.YtkhifpbokgabbaaGreatDoor
open Go.RowKit
inductive Blk where
  | lit (cs:List Value) (ty:TypeId) (fz:Nat × Nat)
  | rows (w n:Nat) (g:Nat -> Nat -> Value) (ty:TypeId) (fz:Nat × Nat)
  | obj (o:Obj)
def rowsOf (w:Nat) (g:Nat -> Nat -> Value):Nat -> List Value
  | 0=>[]
  | n+1=>rowsOf w g n++(List.range w).map (g n)
def Blk.den:Blk -> Obj
  | .lit cs ty fz=>.cells ⟨cs⟩ ty fz
  | .rows w n g ty fz=>.cells ⟨rowsOf w g n⟩ ty fz
  | .obj o=>o
theorem rowsOf_length (w:Nat) (g:Nat -> Nat -> Value) (n:Nat):(rowsOf w g n).length=n * w:=by
  induction n with
  | zero=>simp [rowsOf]
  | succ n ih=>simp [rowsOf,ih,Nat.succ_mul]
theorem rowsOf_get {w:Nat} {g:Nat -> Nat -> Value} {n i k:Nat} (hi:i < n) (hk:k < w):(rowsOf w g n)[i * w+k]?=some (g i k):=by
  induction n with
  | zero=>omega
  | succ n ih =>
    rw [rowsOf]
    rcases Nat.lt_or_ge i n with h | h
    · have h1:i * w+k < n * w:=by
        have:(i+1) * w <= n * w:=Nat.mul_le_mul_right _ h
        rw [Nat.succ_mul] at this
        omega
      rw [List.getElem?_append_left (by rw [rowsOf_length];exact h1),ih h]
    · obtain rfl:i=n:=by omega
      rw [List.getElem?_append_right (by rw [rowsOf_length];omega),rowsOf_length]
      rw [Nat.add_sub_cancel_left]
      simp [hk]
def updG (g:Nat -> Nat -> Value) (i k:Nat) (v:Value):Nat -> Nat -> Value:=λ i' k'=>if i'=i /\ k'=k then v else g i' k'
theorem rowsOf_congr {w:Nat} {g g':Nat -> Nat -> Value} {n:Nat} (h:∀ i k,i < n -> k < w -> g i k=g' i k):rowsOf w g n=rowsOf w g' n:=by
  induction n with
  | zero=>rfl
  | succ n ih =>
    rw [rowsOf,rowsOf,ih (λ i k hi hk=>h i k (by omega) hk)]
    congr 1
    exact List.map_congr_left λ k hk=>h n k (by omega) (List.mem_range.1 hk)
theorem rowsOf_ext {w:Nat} {g:Nat -> Nat -> Value} {n:Nat} {l:List Value} (hl:l.length=n * w) (h:∀ i k,i < n -> k < w -> l[i * w+k]?=some (g i k)):rowsOf w g n=l:=by
  apply List.ext_getElem?
  intro j
  rcases Nat.lt_or_ge j (n * w) with hj | hj
  · have hw:0 < w:=by
      rcases Nat.eq_zero_or_pos w with h0 | h0
      · subst h0;simp at hj
      · exact h0
    have h1:j / w * w+j % w=j:=by rw [Nat.mul_comm];exact Nat.div_add_mod j w
    have hi:j / w < n:=Nat.div_lt_of_lt_mul (by rw [Nat.mul_comm];exact hj)
    have hk:j % w < w:=Nat.mod_lt _ hw
    have h2:=h _ _ hi hk
    rw [h1] at h2
    rw [h2]
    have:=rowsOf_get (g:=g) hi hk
    rw [h1] at this
    exact this
  · rw [List.getElem?_eq_none (by rw [rowsOf_length];exact hj),List.getElem?_eq_none (by omega)]
theorem rowsOf_set {w:Nat} {g:Nat -> Nat -> Value} {n i k:Nat} (hi:i < n) (hk:k < w) (v:Value):(rowsOf w g n).set (i * w+k) v=rowsOf w (updG g i k v) n:=by
  symm
  refine rowsOf_ext (by rw [List.length_set,rowsOf_length]) ?_
  intro i' k' hi' hk'
  rw [List.getElem?_set,rowsOf_length]
  by_cases e:i * w+k=i' * w+k'
  · have e1:i=i':=by
      rcases Nat.lt_trichotomy i i' with h | h | h
      · have:(i+1) * w <= i' * w:=Nat.mul_le_mul_right _ h
        rw [Nat.succ_mul] at this;omega
      · exact h
      · have:(i'+1) * w <= i * w:=Nat.mul_le_mul_right _ h
        rw [Nat.succ_mul] at this;omega
    subst e1
    have e2:k=k':=by omega
    subst e2
    have h1:i * w+k < n * w:=by
      have:(i+1) * w <= n * w:=Nat.mul_le_mul_right _ hi
      rw [Nat.succ_mul] at this
      omega
    simp [h1,updG]
  · rw [if_neg e,rowsOf_get hi' hk']
    unfold updG
    rw [if_neg]
    rintro ⟨rfl,rfl⟩
    exact e rfl
abbrev HL:=List (Nat × Blk)
def Holds (w:World) (H:HL):Prop:=∀ x ∈ H,w.heap[x.1]?=some x.2.den
structure Rel (H:HL) (w:World):Prop where
  holds:Holds w H
  nodup:(H.map (·.1)).Nodup
theorem lt_of_heap' {w:World} {k:Nat} {o:Obj} (h:w.heap[k]?=some o):k < w.heap.size:=(Array.getElem?_eq_some_iff.1 h).1
theorem Rel.lt {H:HL} {w:World} (h:Rel H w) {x:Nat × Blk} (hx:x ∈ H):x.1 < w.heap.size:=lt_of_heap' (h.holds x hx)
theorem Rel.drop {H X:HL} {w:World} (h:Rel (X++H) w):Rel H w :=
  ⟨λ x hx=>h.holds x (List.mem_append_right _ hx),by have:=h.nodup;rw [List.map_append] at this;exact (List.nodup_append.1 this).2.1⟩
theorem Rel.perm {H H':HL} {w:World} (h:Rel H w) (hp:H'.Perm H):Rel H' w :=
  ⟨λ x hx=>h.holds x (hp.mem_iff.1 hx),(hp.map _).nodup_iff.2 h.nodup⟩
theorem Rel.sub {H H':HL} {w:World} (h:Rel H w) (hp:H'.Sublist H):Rel H' w :=
  ⟨λ x hx=>h.holds x (hp.subset hx),(hp.map _).nodup h.nodup⟩
theorem Rel.cons {H:HL} {w:World} {o:Obj} (b:Blk) (hb:b.den=o) (h:Rel H w):Rel ((w.heap.size,b) :: H) { w with heap:=w.heap.push o }:=by
  subst hb
  constructor
  · intro x hx
    show (w.heap.push b.den)[x.1]?=_
    rcases List.mem_cons.1 hx with rfl | hx
    · simp
    · rw [Array.getElem?_push,if_neg (by have:=h.lt hx;omega)]
      exact h.holds x hx
  · simp only [List.map_cons,List.nodup_cons]
    refine ⟨?_,h.nodup⟩
    intro hm
    obtain ⟨x,hx,he⟩:=List.mem_map.1 hm
    have:=h.lt hx
    omega
theorem Rel.world {H:HL} {w w':World} (h:Rel H w) (e:w'.heap=w.heap):Rel H w':=⟨λ x hx=>by rw [e];exact h.holds x hx,h.nodup⟩
def setAt {α:Type}:List α -> Nat -> α -> List α
  | [],_,_=>[]
  | _ :: l,0,x=>x :: l
  | y :: l,n+1,x=>y :: setAt l n x
theorem setAt_eq {α:Type} (l:List α) (n:Nat) (x:α):setAt l n x=l.set n x:=by
  induction l generalizing n with
  | nil=>rfl
  | cons y l ih=>cases n with
    | zero=>rfl
    | succ n=>rw [setAt,ih];rfl
theorem Rel.upd {H F:HL} {w w':World} {p:Nat} {b:Nat} {bl bl':Blk} (h:Rel (H++F) w) (hp:H[p]?=some (b,bl)) (hd:w'.heap[b]?=some bl'.den) (hs:∀ k,k ≠ b -> w'.heap[k]?=w.heap[k]?):Rel (setAt H p (b,bl')++F) w':=by
  have hlt:p < H.length:=(List.getElem?_eq_some_iff.1 hp).1
  have hHp:H[p]=(b,bl):=(List.getElem?_eq_some_iff.1 hp).2
  rw [setAt_eq]
  have hmap:((H.set p (b,bl')++F).map (·.1))=(H++F).map (·.1):=by
    rw [List.map_append,List.map_append,List.map_set]
    congr 1
    apply List.ext_getElem?
    intro j
    rw [List.getElem?_set]
    by_cases hj:p=j
    · subst hj
      simp [hlt,hHp]
    · rw [if_neg hj]
  refine ⟨?_,by rw [hmap];exact h.nodup⟩
  intro x hx
  obtain ⟨j,hj⟩:=List.getElem?_of_mem hx
  by_cases hjp:j=p
  · subst hjp
    rw [List.getElem?_append_left (by simpa using hlt),List.getElem?_set,if_pos rfl,if_pos hlt] at hj
    obtain rfl:(b,bl')=x:=by simpa using hj
    exact hd
  · have hj':(H++F)[j]?=some x:=by
      rcases Nat.lt_or_ge j H.length with hl | hl
      · rw [List.getElem?_append_left (by simpa using hl),List.getElem?_set,if_neg (λ e=>hjp e.symm)] at hj
        rw [List.getElem?_append_left hl];exact hj
      · rw [List.getElem?_append_right (by simpa using hl),List.length_set] at hj
        rw [List.getElem?_append_right hl];exact hj
    have hne:x.1 ≠ b:=by
      intro e
      have hnd:=h.nodup
      rw [List.nodup_iff_pairwise_ne,List.pairwise_iff_getElem] at hnd
      have hjl:j < (H++F).length:=(List.getElem?_eq_some_iff.1 hj').1
      have hpl:(H++F)[p]?=some (b,bl):=by rw [List.getElem?_append_left hlt];exact hp
      have hpl':p < (H++F).length:=(List.getElem?_eq_some_iff.1 hpl).1
      have e1:((H++F).map (·.1))[j]'(by rw [List.length_map];exact hjl)=x.1:=by rw [List.getElem_map,(List.getElem?_eq_some_iff.1 hj').2]
      have e2:((H++F).map (·.1))[p]'(by rw [List.length_map];exact hpl')=b:=by rw [List.getElem_map,(List.getElem?_eq_some_iff.1 hpl).2]
      rcases Nat.lt_or_ge j p with hlt' | hge
      · exact hnd j p _ _ hlt' (by rw [e1,e2,e])
      · exact hnd p j _ _ (by omega) (by rw [e1,e2,e])
    rw [hs _ hne]
    exact h.holds x (List.mem_of_getElem? hj')
theorem Rel.store {H F:HL} {w:World} {p:Nat} {b:Nat} {bl bl':Blk} {a:Addr} {v:Value} (h:Rel (H++F) w) (hp:H[p]?=some (b,bl)) (ha:a.block=b)
    (hd:∀ W:World,W.heap[b]?=some bl.den -> (W.setCell a v).heap[b]?=some bl'.den):Rel (setAt H p (b,bl')++F) (w.setCell a v) :=
  h.upd hp (hd w (h.holds (b,bl) (List.mem_append_left _ (List.mem_of_getElem? hp)))) (λ k hk=>Below.heap_setCell _ _ _ _ (by rw [ha];exact hk))
inductive Hint where
  | own (p:Nat)
  | row (p i k:Nat)
  | ro (p:Nat)
  | rorow (p i k:Nat)
  | ix (j:Nat)
  | nw
  | sl (l h:Nat) (e:Bool)
  | mk (l c:Nat)
  | dv
  | sh (n:Nat)
  | gd (b:Bool)
  | sq
  | gen
  | mp (p:Nat) (kv:List (ByteArray × Value)) (v:Value)
  | mq (p:Nat) (kv:List (ByteArray × Value)) (v:Value)
  | sl0 (h:Nat)
structure SS where
  h:HL
  r:HL
  hints:List Hint
  cnt:Nat
  eq:List (Nat × Nat)
  ob:List Prop
  wr:Bool
def arun (P:Program) (n0:Nat) {α:Type}:Sem α -> SS -> Option (α × SS)
  | .pure a,s=>some (a,s)
  | .load _ a k,s=>match s.hints with
    | .own p :: hs=>match s.h[p]? with
      | some (b,.lit cs _ _)=>match a.spot,cs[a.off]? with
        | none,some v=>arun P n0 (k v) { s with hints:=hs,eq:=(a.block,b) :: s.eq }
        | _,_=>none
      | _=>none
    | .row p i j :: hs=>match s.h[p]? with
      | some (b,.rows w n g _ _)=>match a.spot,decide (j < w) with
        | none,true=>arun P n0 (k (g i j)) { s with hints:=hs,eq:=(a.block,b) :: s.eq,ob:=(a.off=i * w+j /\ i < n) :: s.ob }
        | _,_=>none
      | _=>none
    | .ro p :: hs=>match s.r[p]? with
      | some (b,.lit cs _ _)=>match a.spot,cs[a.off]? with
        | none,some v=>arun P n0 (k v) { s with hints:=hs,eq:=(a.block,b) :: s.eq }
        | _,_=>none
      | _=>none
    | .rorow p i j :: hs=>match s.r[p]? with
      | some (b,.rows w n g _ _)=>match a.spot,decide (j < w) with
        | none,true=>arun P n0 (k (g i j)) { s with hints:=hs,eq:=(a.block,b) :: s.eq,ob:=(a.off=i * w+j /\ i < n) :: s.ob }
        | _,_=>none
      | _=>none
    | _=>none
  | .store _ a v k,s=>match v with
    | .agg _=>none
    | .tuple _=>none
    | v=>match s.hints with
      | .own p :: hs=>match s.h[p]? with
        | some (b,.lit cs t fz)=>match a.spot,decide (a.off < cs.length),decide (fz.2=0) with
          | none,true,true=>match s.wr with
            | false=>none
            | true=>arun P n0 k { s with h:=setAt s.h p (b,.lit (setAt cs a.off v) t fz),hints:=hs,eq:=(a.block,b) :: s.eq }
          | _,_,_=>none
        | _=>none
      | .row p i j :: hs=>match s.h[p]? with
        | some (b,.rows w n g t fz)=>match a.spot,decide (j < w),decide (fz.2=0) with
          | none,true,true=>match s.wr with
            | false=>none
            | true=>arun P n0 k { s with h:=setAt s.h p (b,.rows w n (updG g i j v) t fz),hints:=hs,eq:=(a.block,b) :: s.eq,ob:=(a.off=i * w+j /\ i < n) :: s.ob }
          | _,_,_=>none
        | _=>none
      | _=>none
  | .new o k,s=>match s.wr with
   | false=>none
   | true=>match o with
    | .cells c ty fz=>arun P n0 (k (n0+s.cnt)) { s with h:=(n0+s.cnt,.lit c.toList ty fz) :: s.h,cnt:=s.cnt+1 }
    | o=>arun P n0 (k (n0+s.cnt)) { s with h:=(n0+s.cnt,.obj o) :: s.h,cnt:=s.cnt+1 }
  | .program k,s=>arun P n0 (k P) s
  | .mark _ k,s=>arun P n0 k s
  | .getObj r k,s=>match s.hints with
    | .own p :: hs=>match s.h[p]? with
      | some (b,.obj o)=>match o with
        | .cells _ _ _=>none
        | o=>arun P n0 (k o) { s with hints:=hs,eq:=(r,b) :: s.eq }
      | _=>none
    | _=>none
  | .setObj r o k,s=>match s.hints with
    | .own p :: hs=>match s.h[p]?,s.wr with
      | some (b,.obj o'),true=>match o' with
        | .cells _ _ _=>none
        | _=>arun P n0 k { s with h:=setAt s.h p (b,.obj o),hints:=hs,eq:=(r,b) :: s.eq }
      | _,_=>none
    | _=>none
  | _,_=>none
theorem setCell_lit {W:World} {a:Addr} {b:Nat} {cs:List Value} {ty:TypeId} {fz:Nat × Nat} {v:Value} (ha:a.block=b) (hs:a.spot=none) (h:W.heap[b]?=some (Blk.lit cs ty fz).den) :
    (W.setCell a v).heap[b]?=some (Blk.lit (setAt cs a.off v) ty fz).den:=by
  subst ha
  simp only [World.setCell,Array.getElem?_modify,if_true,h,Option.map_some,Blk.den,hs,Option.isSome_none,Bool.false_eq_true,if_false,setAt_eq]
  simp
theorem setCell_rows {W:World} {a:Addr} {b w n i k:Nat} {g:Nat -> Nat -> Value} {ty:TypeId} {fz:Nat × Nat} {v:Value} (ha:a.block=b) (hs:a.spot=none) (ho:a.off=i * w+k) (hi:i < n) (hk:k < w)
    (h:W.heap[b]?=some (Blk.rows w n g ty fz).den):(W.setCell a v).heap[b]?=some (Blk.rows w n (updG g i k v) ty fz).den:=by
  subst ha
  simp only [World.setCell,Array.getElem?_modify,if_true,h,Option.map_some,Blk.den,hs,Option.isSome_none,Bool.false_eq_true,if_false,<- rowsOf_set hi hk,ho]
  simp
theorem arun_keeps {P:Program} {n0:Nat} {α:Type} (s:Sem α):∀ (ss ss':SS) (x:α),arun P n0 s ss=some (x,ss') -> (∀ p ∈ ss.eq,p ∈ ss'.eq) /\ (∀ p ∈ ss.ob,p ∈ ss'.ob) /\ ss'.r=ss.r /\ ss'.wr=ss.wr:=by
  induction s with
  | pure a=>intro ss ss' x h;rw [arun] at h;cases h;exact ⟨λ _ h=>h,λ _ h=>h,rfl,rfl⟩
  | load m a k ih =>
    intro ss ss' x h
    rw [arun] at h
    split at h
    case h_5=>cases h
    all_goals
      split at h
      case h_2=>cases h
      split at h
      case h_2=>cases h
      obtain ⟨h1,h2,h3⟩:=ih _ _ _ _ h
      exact ⟨λ p hp=>h1 p (List.mem_cons_of_mem _ hp),λ p hp=>h2 p (by first | exact hp | exact List.mem_cons_of_mem _ hp),h3⟩
  | store m a v k ih =>
    intro ss ss' x h
    rw [arun.eq_def] at h
    dsimp only at h
    split at h
    · cases h
    · cases h
    · split at h
      case h_3=>cases h
      all_goals
        split at h
        case h_2=>cases h
        split at h
        case h_2=>cases h
        split at h
        · cases h
        obtain ⟨h1,h2,h3⟩:=ih _ _ _ h
        exact ⟨λ p hp=>h1 p (List.mem_cons_of_mem _ hp),λ p hp=>h2 p (by first | exact hp | exact List.mem_cons_of_mem _ hp),h3⟩
  | new o k ih =>
    intro ss ss' x h
    rw [arun.eq_def] at h
    dsimp only at h
    split at h
    · cases h
    split at h <;> (have h1:=ih _ _ _ _ h;exact h1)
  | program k ih=>intro ss ss' x h;rw [arun] at h;exact ih _ _ _ _ h
  | mark m k ih=>intro ss ss' x h;rw [arun] at h;exact ih _ _ _ h
  | getObj r k ih =>
    intro ss ss' x h
    rw [arun.eq_def] at h
    dsimp only at h
    split at h
    case h_2=>cases h
    split at h
    case h_2=>cases h
    split at h
    · cases h
    obtain ⟨h1,h2,h3⟩:=ih _ _ _ _ h
    exact ⟨λ p hp=>h1 p (List.mem_cons_of_mem _ hp),h2,h3⟩
  | setObj r o k ih =>
    intro ss ss' x h
    rw [arun.eq_def] at h
    dsimp only at h
    split at h
    case h_2=>cases h
    split at h
    case h_2=>cases h
    split at h
    · cases h
    obtain ⟨h1,h2,h3⟩:=ih _ _ _ h
    exact ⟨λ p hp=>h1 p (List.mem_cons_of_mem _ hp),h2,h3⟩
  | _=>intro ss ss' x h;simp [arun] at h
theorem arun_ro {P:Program} {n0:Nat} {α:Type} (s:Sem α):∀ (ss ss':SS) (x:α),arun P n0 s ss=some (x,ss') -> ss.wr=false -> ss'.h=ss.h:=by
  induction s with
  | pure a=>intro ss ss' x h _;rw [arun] at h;cases h;rfl
  | load m a k ih =>
    intro ss ss' x h hw
    rw [arun] at h
    split at h
    case h_5=>cases h
    all_goals
      split at h
      case h_2=>cases h
      split at h
      case h_2=>cases h
      exact (ih _ _ _ _ h hw :)
  | store m a v k ih =>
    intro ss ss' x h hw
    rw [arun.eq_def] at h
    dsimp only at h
    split at h
    · cases h
    · cases h
    · split at h
      case h_3=>cases h
      all_goals
        split at h
        case h_2=>cases h
        split at h
        case h_2=>cases h
        split at h
        · cases h
        rename_i e
        rw [hw] at e;cases e
  | new o k ih =>
    intro ss ss' x h hw
    rw [arun.eq_def] at h
    dsimp only at h
    split at h
    · cases h
    rename_i e
    rw [hw] at e;cases e
  | program k ih=>intro ss ss' x h hw;rw [arun] at h;exact ih _ _ _ _ h hw
  | mark m k ih=>intro ss ss' x h hw;rw [arun] at h;exact ih _ _ _ h hw
  | getObj r k ih =>
    intro ss ss' x h hw
    rw [arun.eq_def] at h
    dsimp only at h
    split at h
    case h_2=>cases h
    split at h
    case h_2=>cases h
    split at h
    · cases h
    exact (ih _ _ _ _ h hw :)
  | setObj r o k ih =>
    intro ss ss' x h hw
    rw [arun.eq_def] at h
    dsimp only at h
    split at h
    case h_2=>cases h
    split at h
    case h_2=>cases h
    rename_i e
    rw [hw] at e;cases e
  | _=>intro ss ss' x h;simp [arun] at h
theorem cell_lit {w:World} {a:Addr} {b:Nat} {cs:List Value} {ty:TypeId} {fz:Nat × Nat} {v:Value} (h:w.heap[b]?=some (Blk.lit cs ty fz).den) (ha:a.block=b) (hs:a.spot=none) (hv:cs[a.off]?=some v):w.cell? a=some v:=by
  subst ha
  simp [World.cell?,h,Blk.den,hs,hv]
theorem cell_rows {W:World} {a:Addr} {b w n i k:Nat} {g:Nat -> Nat -> Value} {ty:TypeId} {fz:Nat × Nat} (h:W.heap[b]?=some (Blk.rows w n g ty fz).den) (ha:a.block=b) (hs:a.spot=none) (ho:a.off=i * w+k) (hi:i < n) (hk:k < w):W.cell? a=some (g i k):=by
  subst ha
  simp [World.cell?,h,Blk.den,hs,ho,rowsOf_get hi hk]
theorem frozen_of {w:World} {a:Addr} {b:Nat} {bl:Blk} (h:w.heap[b]?=some bl.den) (ha:a.block=b) (hz:match bl with | .lit _ _ fz=>fz.2=0 | .rows _ _ _ _ fz=>fz.2=0 | .obj _=>False):w.frozen? a=false:=by
  subst ha
  cases bl with
  | lit cs ty fz=>obtain ⟨lo,hi⟩:=fz;simp only at hz;subst hz;simp [World.frozen?,h,Blk.den]
  | rows w n g ty fz=>obtain ⟨lo,hi⟩:=fz;simp only at hz;subst hz;simp [World.frozen?,h,Blk.den]
  | obj o=>exact hz.elim
theorem run_store {P:Program} {α:Type} {m:Mode} {a:Addr} {v u:Value} {k:Sem α} {w:World} (h1:∀ cs,v ≠ .agg cs) (h2:∀ cs,v ≠ .tuple cs) (hc:w.cell? a=some u) (hf:w.frozen? a=false):(Sem.store m a v k).run P w=k.run P (w.setCell a v):=by
  rw [Sem.run.eq_def]
  cases v <;> first | exact absurd rfl (h1 _) | exact absurd rfl (h2 _) | simp [hc,hf]
theorem arun_sound {P:Program} {n0:Nat} {α:Type} {F:HL} (s:Sem α):∀ (ss ss':SS) (x:α) (w:World),arun P n0 s ss=some (x,ss') ->
    (∀ p ∈ ss'.eq,p.1=p.2) -> (∀ p ∈ ss'.ob,p) -> Rel (ss.h++F) w -> (∀ y ∈ ss.r,y ∈ F) -> (ss.wr=true -> n0+ss.cnt=w.heap.size) ->
    ∃ w',s.run P w=.ok x w' /\ Rel (ss'.h++F) w' /\ Below 0 w w' /\ (ss.wr=true -> n0+ss'.cnt=w'.heap.size) /\ (ss.wr=false -> w'=w):=by
  induction s with
  | pure a=>intro ss ss' x w h _ _ hR _ hn;rw [arun] at h;cases h;exact ⟨w,rfl,hR,Below.refl _ _,hn,λ _=>rfl⟩
  | load m a k ih =>
    intro ss ss' x w h heq hob hR hr hn
    rw [arun] at h
    have hown:∀ (p b:Nat) (bl:Blk),ss.h[p]?=some (b,bl) -> w.heap[b]?=some bl.den:=λ p b bl hp=>hR.holds (b,bl) (List.mem_append_left _ (List.mem_of_getElem? hp))
    have hro:∀ (p b:Nat) (bl:Blk),ss.r[p]?=some (b,bl) -> w.heap[b]?=some bl.den:=λ p b bl hp=>hR.holds (b,bl) (List.mem_append_right _ (hr _ (List.mem_of_getElem? hp)))
    split at h
    case h_5=>cases h
    · split at h
      case h_2=>cases h
      rename_i hp
      split at h
      case h_2=>cases h
      obtain ⟨k1,k2,k3⟩:=arun_keeps _ _ _ _ h
      rename_i v hs hv
      have hc:=cell_lit (hown _ _ _ hp) (heq _ (k1 _ (List.mem_cons_self))) hs hv
      obtain ⟨w',h1,h2,h3,h4,h5⟩:=ih _ _ _ _ w h heq hob hR hr hn
      exact ⟨w',by rw [Sem.run,hc];exact h1,h2,h3,h4,h5⟩
    · split at h
      case h_2=>cases h
      rename_i hp
      split at h
      case h_2=>cases h
      obtain ⟨k1,k2,k3⟩:=arun_keeps _ _ _ _ h
      rename_i hs hv
      obtain ⟨o1,o2⟩:=hob _ (k2 _ (List.mem_cons_self))
      have hc:=cell_rows (hown _ _ _ hp) (heq _ (k1 _ (List.mem_cons_self))) hs o1 o2 (by simpa using hv)
      obtain ⟨w',h1,h2,h3,h4,h5⟩:=ih _ _ _ _ w h heq hob hR hr hn
      exact ⟨w',by rw [Sem.run,hc];exact h1,h2,h3,h4,h5⟩
    · split at h
      case h_2=>cases h
      rename_i hp
      split at h
      case h_2=>cases h
      obtain ⟨k1,k2,k3⟩:=arun_keeps _ _ _ _ h
      rename_i v hs hv
      have hc:=cell_lit (hro _ _ _ hp) (heq _ (k1 _ (List.mem_cons_self))) hs hv
      obtain ⟨w',h1,h2,h3,h4,h5⟩:=ih _ _ _ _ w h heq hob hR hr hn
      exact ⟨w',by rw [Sem.run,hc];exact h1,h2,h3,h4,h5⟩
    · split at h
      case h_2=>cases h
      rename_i hp
      split at h
      case h_2=>cases h
      obtain ⟨k1,k2,k3⟩:=arun_keeps _ _ _ _ h
      rename_i hs hv
      obtain ⟨o1,o2⟩:=hob _ (k2 _ (List.mem_cons_self))
      have hc:=cell_rows (hro _ _ _ hp) (heq _ (k1 _ (List.mem_cons_self))) hs o1 o2 (by simpa using hv)
      obtain ⟨w',h1,h2,h3,h4,h5⟩:=ih _ _ _ _ w h heq hob hR hr hn
      exact ⟨w',by rw [Sem.run,hc];exact h1,h2,h3,h4,h5⟩
  | store m a v k ih =>
    intro ss ss' x w h heq hob hR hr hn
    rw [arun.eq_def] at h
    dsimp only at h
    split at h
    · cases h
    · cases h
    · rename_i hv1 hv2
      have hown:∀ (p b:Nat) (bl:Blk),ss.h[p]?=some (b,bl) -> w.heap[b]?=some bl.den:=λ p b bl hp=>hR.holds (b,bl) (List.mem_append_left _ (List.mem_of_getElem? hp))
      split at h
      case h_3=>cases h
      · split at h
        case h_2=>cases h
        rename_i hp
        split at h
        case h_2=>cases h
        rename_i hs hlt hz
        split at h
        · cases h
        rename_i hwr
        obtain ⟨k1,k2,k3⟩:=arun_keeps _ _ _ _ h
        have ha:=heq _ (k1 _ (List.mem_cons_self))
        have hlt':a.off < _:=of_decide_eq_true hlt
        have hc:=cell_lit (hown _ _ _ hp) ha hs (List.getElem?_eq_getElem hlt')
        have hf:=frozen_of (hown _ _ _ hp) ha (by simpa using hz)
        have hR':=hR.store (v:=v) hp ha (λ W hW=>setCell_lit ha hs hW)
        obtain ⟨w',h1,h2,h3,h4,-⟩:=ih _ _ _ (w.setCell a v) h heq hob hR' hr (λ e=>by simpa [World.setCell] using hn e)
        exact ⟨w',by rw [run_store (λ cs e=>hv1 cs e) (λ cs e=>hv2 cs e) hc hf];exact h1,h2,((Below.refl 0 w).setCell (Nat.zero_le _) v).trans h3,h4,λ e=>by rw [hwr] at e;cases e⟩
      · split at h
        case h_2=>cases h
        rename_i hp
        split at h
        case h_2=>cases h
        rename_i hs hlt hz
        split at h
        · cases h
        rename_i hwr
        obtain ⟨k1,k2,k3⟩:=arun_keeps _ _ _ _ h
        have ha:=heq _ (k1 _ (List.mem_cons_self))
        obtain ⟨o1,o2⟩:=hob _ (k2 _ (List.mem_cons_self))
        have hk:_ < _:=of_decide_eq_true hlt
        have hc:=cell_rows (hown _ _ _ hp) ha hs o1 o2 hk
        have hf:=frozen_of (hown _ _ _ hp) ha (by simpa using hz)
        have hR':=hR.store (v:=v) hp ha (λ W hW=>setCell_rows ha hs o1 o2 hk hW)
        obtain ⟨w',h1,h2,h3,h4,-⟩:=ih _ _ _ (w.setCell a v) h heq hob hR' hr (λ e=>by simpa [World.setCell] using hn e)
        exact ⟨w',by rw [run_store (λ cs e=>hv1 cs e) (λ cs e=>hv2 cs e) hc hf];exact h1,h2,((Below.refl 0 w).setCell (Nat.zero_le _) v).trans h3,h4,λ e=>by rw [hwr] at e;cases e⟩
  | new o k ih =>
    intro ss ss' x w h heq hob hR hr hn
    rw [arun.eq_def] at h
    dsimp only at h
    have hb:∀ o':Obj,Below 0 w { w with heap:=w.heap.push o' }:=λ o'=>⟨rfl,rfl,rfl,by simp,λ k hk=>by omega⟩
    split at h
    · cases h
    rename_i hwr
    replace hn:=hn hwr
    split at h
    · rename_i c ty fz
      have hR':=hR.cons (.lit c.toList ty fz) (o:=.cells c ty fz) (by simp [Blk.den])
      rw [<- hn] at hR'
      obtain ⟨w',h1,h2,h3,h4,-⟩:=ih _ _ _ _ _ h heq hob hR' hr (λ _=>by simp;omega)
      refine ⟨w',?_,h2,(hb _).trans h3,h4,λ e=>by rw [hwr] at e;cases e⟩
      rw [Sem.run,<- hn];exact h1
    · have hR':=hR.cons (.obj o) (o:=o) rfl
      rw [<- hn] at hR'
      obtain ⟨w',h1,h2,h3,h4,-⟩:=ih _ _ _ _ _ h heq hob hR' hr (λ _=>by simp;omega)
      refine ⟨w',?_,h2,(hb _).trans h3,h4,λ e=>by rw [hwr] at e;cases e⟩
      rw [Sem.run,<- hn];exact h1
  | program k ih =>
    intro ss ss' x w h heq hob hR hr hn
    rw [arun] at h
    obtain ⟨w',h1,h2,h3,h4,h5⟩:=ih _ _ _ _ w h heq hob hR hr hn
    exact ⟨w',by rw [Sem.run];exact h1,h2,h3,h4,h5⟩
  | mark m k ih =>
    intro ss ss' x w h heq hob hR hr hn
    rw [arun] at h
    obtain ⟨w',h1,h2,h3,h4,h5⟩:=ih _ _ _ w h heq hob hR hr hn
    exact ⟨w',by rw [Sem.run];exact h1,h2,h3,h4,h5⟩
  | getObj r k ih =>
    intro ss ss' x w h heq hob hR hr hn
    rw [arun.eq_def] at h
    dsimp only at h
    split at h
    case h_2=>cases h
    split at h
    case h_2=>cases h
    rename_i hp
    split at h
    · cases h
    rename_i o hno
    obtain ⟨k1,k2,k3⟩:=arun_keeps _ _ _ _ h
    have ha:=heq _ (k1 _ (List.mem_cons_self))
    simp only at ha
    have hb:=hR.holds _ (List.mem_append_left _ (List.mem_of_getElem? hp))
    simp only [Blk.den] at hb
    obtain ⟨w',h1,h2,h3,h4,h5⟩:=ih _ _ _ _ w h heq hob hR hr hn
    refine ⟨w',?_,h2,h3,h4,h5⟩
    rw [Sem.run.eq_def]
    simp only [ha,hb]
    exact h1
  | setObj r o k ih =>
    intro ss ss' x w h heq hob hR hr hn
    rw [arun.eq_def] at h
    dsimp only at h
    split at h
    case h_2=>cases h
    split at h
    case h_2=>cases h
    rename_i hp hwr
    split at h
    · cases h
    rename_i o' hno
    obtain ⟨k1,k2,k3⟩:=arun_keeps _ _ _ _ h
    have ha:=heq _ (k1 _ (List.mem_cons_self))
    simp only at ha
    have hb:=hR.holds _ (List.mem_append_left _ (List.mem_of_getElem? hp))
    simp only [Blk.den] at hb
    have hlt:=lt_of_heap' hb
    have hR':=hR.upd (w':={ w with heap:=w.heap.setIfInBounds r o }) (bl':=.obj o) hp (by
      subst ha
      show (w.heap.setIfInBounds r o)[r]?=_
      rw [Array.getElem?_setIfInBounds_self_of_lt hlt];rfl) (λ k' hk=>by
      subst ha
      show (w.heap.setIfInBounds r o)[k']?=_
      rw [Array.getElem?_setIfInBounds_ne (λ e=>hk e.symm)])
    have hB':Below 0 w { w with heap:=w.heap.setIfInBounds r o }:=⟨rfl,rfl,rfl,by simp,λ k hk=>by omega⟩
    obtain ⟨w',h1,h2,h3,h4,-⟩:=ih _ _ _ { w with heap:=w.heap.setIfInBounds r o } h heq hob hR' hr (λ e=>by simpa using hn e)
    refine ⟨w',?_,h2,hB'.trans h3,h4,λ e=>by rw [hwr] at e;cases e⟩
    rw [Sem.run.eq_def]
    simp only [ha,hb]
    rw [ha] at h1;exact h1
  | _=>intro ss ss' x w h;simp [arun] at h
end Go.Proofs.YtkhifpbokgabbaaGreatDoor
