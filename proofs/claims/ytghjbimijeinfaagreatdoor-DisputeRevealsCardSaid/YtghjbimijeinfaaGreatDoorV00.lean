import Derived.WalkKit
import Derived.OrdersHeld
import Derived.Deep.RegionHeld3
import Derived.KernelRfl
import Derived.Laws.StructEq
set_option maxHeartbeats 4000000
set_option maxRecDepth 100000
set_option linter.all false
namespace Go.Proofs.YtghjbimijeinfaaGreatDoor
open IntKind
open Go.RowKit
def aau:=@List.mem_append_right
def aav:=@List.mem_append_left
def aaA:=@List.mem_cons_self
def aaC:=@List.mem_cons_of_mem
def aaF:=@List.append_assoc
def aaK:=@List.getD_eq_getElem?_getD
def aaN:=@Nat.le_of_ble_eq_true
def aaS:=@Nat.le_refl
def aaU:=@Nat.zero_le
def aaV:=@List.length_append
def aaW:=@List.length_take
def aaY:=@List.length_cons
def aa3:=@List.getElem?_eq_getElem
def aa4:=@List.getElem?_append_left
def aa6:=@List.getElem?_append_right
def aa7:=@List.perm_append_comm
def aa8:=@List.Perm.append_right
def abb:=@List.eq_nil_of_length_eq_zero
def abd:=@Nat.lt_or_ge
def abe:=@Bool.and_eq_true
def abf:=@Nat.eq_of_beq_eq_true
def abm:=@Result.andThen_ok
def abp:=@Sem.run_bind
def abq:=@of_decide_eq_true
def abv:=@List.getElem?_map
def abz:=@decide_eq_false
def abA:=@decide_eq_true
inductive Blk where
 | lit (cs:List Value) (ty:TypeId) (fz:Nat × Nat)
 | rows (w n:Nat) (g:Nat -> Nat -> Value) (ty:TypeId) (fz:Nat × Nat)
 | obj (o:Obj)
def bC(w:Nat)(g:Nat -> Nat -> Value):Nat -> List Value
 | 0=>[]
 | n+1=>bC w g n++(List.range w).map (g n)
def Blk.den:Blk -> Obj
 | .lit cs ty fz=>.cells ⟨cs⟩ ty fz
 | .rows w n g ty fz=>.cells ⟨bC w g n⟩ ty fz
 | .obj o=>o
theorem cZ(w:Nat)(g:Nat -> Nat -> Value)(n:Nat):(bC w g n).length=n*w:=by
 induction n with
 | zero=>simp[bC]
 | succ n ih=>simp[bC,ih,Nat.succ_mul]
theorem nF{w:Nat}{g:Nat -> Nat -> Value}{n i k:Nat}(hi:i<n)(hk:k<w):(bC w g n)[i*w+k]?=some (g i k):=by
 induction n with
 | zero=>omega
 | succ n ih =>
  rw[bC];rcases abd i n with h|h
  ·have h1:i*w+k<n*w:=by
    have:(i+1)*w <= n*w:=Nat.mul_le_mul_right _ h;rw[Nat.succ_mul] at this;omega
   rw[aa4 (by rw[cZ];exact h1),ih h]
  ·obtain rfl:i=n:=by omega
   rw[aa6 (by rw[cZ];omega),cZ];rw[Nat.add_sub_cancel_left];simp[hk]
def eF(g:Nat -> Nat -> Value)(i k:Nat)(v:Value):Nat -> Nat -> Value:=λ i' k'=>if i'=i /\ k'=k then v else g i' k'
theorem wl{w:Nat}{g g':Nat -> Nat -> Value}{n:Nat}(h:∀i k,i<n -> k<w -> g i k=g' i k):bC w g n=bC w g' n:=by
 induction n with
 | zero=>rfl
 | succ n ih =>
  rw[bC,bC,ih (λ i k hi hk=>h i k (by omega) hk)];congr 1;exact List.map_congr_left λ k hk=>h n k (by omega) (List.mem_range.1 hk)
theorem iT{w:Nat}{g:Nat -> Nat -> Value}{n:Nat}{l:List Value}(hl:l.length=n*w)(h:∀i k,i<n -> k<w -> l[i*w+k]?=some (g i k)):bC w g n=l:=by
 apply List.ext_getElem?;intro j;rcases abd j (n*w) with hj|hj
 ·have hw:0<w:=by
   rcases Nat.eq_zero_or_pos w with h0|h0
   ·subst h0;simp at hj
   ·exact h0
  have h1:j / w*w+j % w=j:=by rw[Nat.mul_comm];exact Nat.div_add_mod j w
  have hi:j / w<n:=Nat.div_lt_of_lt_mul (by rw[Nat.mul_comm];exact hj);have hk:j % w<w:=Nat.mod_lt _ hw;have h2:=h _ _ hi hk;rw[h1] at h2;rw[h2];have:=nF (g:=g) hi hk;rw[h1] at this;exact this
 ·rw[List.getElem?_eq_none (by rw[cZ];exact hj),List.getElem?_eq_none (by omega)]
theorem Aw{w:Nat}{g:Nat -> Nat -> Value}{n i k:Nat}(hi:i<n)(hk:k<w)(v:Value):(bC w g n).set (i*w+k) v=bC w (eF g i k v) n:=by
 symm
 refine iT (by rw[List.length_set,cZ]) ?_;intro i' k' Xd US;rw[List.getElem?_set,cZ]
 by_cases e:i*w+k=i'*w+k'
 ·have e1:i=i':=by
   rcases Nat.lt_trichotomy i i' with h|h|h
   ·have:(i+1)*w <= i'*w:=Nat.mul_le_mul_right _ h;rw[Nat.succ_mul] at this;omega
   ·exact h
   ·have:(i'+1)*w <= i*w:=Nat.mul_le_mul_right _ h;rw[Nat.succ_mul] at this;omega
  subst e1;have e2:k=k':=by omega
  subst e2;have h1:i*w+k<n*w:=by
   have:(i+1)*w <= n*w:=Nat.mul_le_mul_right _ hi;rw[Nat.succ_mul] at this;omega
  simp[h1,eF]
 ·rw[if_neg e,nF Xd US];unfold eF;rw[if_neg];rintro⟨rfl,rfl⟩;exact e rfl
abbrev HL:=List (Nat × Blk)
def Holds(w:World)(H:HL):Prop:=∀x∈H,w.heap[x.1]?=some x.2.den
structure Rel(H:HL)(w:World):Prop where
 holds:Holds w H
 nodup:(H.map (·.1)).Nodup
theorem bL{w:World}{k:Nat}{o:Obj}(h:w.heap[k]?=some o):k<w.heap.size:=(Array.getElem?_eq_some_iff.1 h).1
theorem Rel.lt{H:HL}{w:World}(h:Rel H w){x:Nat × Blk}(hx:x∈H):x.1<w.heap.size:=bL (h.holds x hx)
theorem Rel.drop{H X:HL}{w:World}(h:Rel (X++H) w):Rel H w :=
 ⟨λ x hx=>h.holds x (aau _ hx),by have:=h.nodup;rw[List.map_append] at this;exact(List.nodup_append.1 this).2.1⟩
theorem Rel.perm{H H':HL}{w:World}(h:Rel H w)(hp:H'.Perm H):Rel H' w :=
 ⟨λ x hx=>h.holds x (hp.mem_iff.1 hx),(hp.map _).nodup_iff.2 h.nodup⟩
theorem Rel.sub{H H':HL}{w:World}(h:Rel H w)(hp:H'.Sublist H):Rel H' w :=
 ⟨λ x hx=>h.holds x (hp.subset hx),(hp.map _).nodup h.nodup⟩
theorem Rel.cons{H:HL}{w:World}{o:Obj}(b:Blk)(hb:b.den=o)(h:Rel H w):Rel ((w.heap.size,b)::H) { w with heap:=w.heap.push o }:=by
 subst hb;constructor
 ·intro x hx;show (w.heap.push b.den)[x.1]?=_;rcases List.mem_cons.1 hx with rfl|hx
  ·simp
  ·rw[Array.getElem?_push,if_neg (by have:=h.lt hx;omega)];exact h.holds x hx
 ·simp only[List.map_cons,List.nodup_cons];refine⟨?_,h.nodup⟩;intro hm;obtain⟨x,hx,he⟩:=List.mem_map.1 hm;have:=h.lt hx;omega
theorem Rel.world{H:HL}{w w':World}(h:Rel H w)(e:w'.heap=w.heap):Rel H w':=⟨λ x hx=>by rw[e];exact h.holds x hx,h.nodup⟩
def aR{α:Type}:List α -> Nat -> α -> List α
 | [],_,_=>[]
 | _::l,0,x=>x::l
 | y::l,n+1,x=>y::aR l n x
theorem iU{α:Type}(l:List α)(n:Nat)(x:α):aR l n x=l.set n x:=by
 induction l generalizing n with
 | nil=>rfl
 | cons y l ih=>cases n with
  | zero=>rfl
  | succ n=>rw[aR,ih];rfl
theorem Rel.upd{H F:HL}{w w':World}{p:Nat}{b:Nat}{bl bl':Blk}(h:Rel (H++F) w)(hp:H[p]?=some (b,bl))(hd:w'.heap[b]?=some bl'.den)(hs:∀k,k≠b -> w'.heap[k]?=w.heap[k]?):Rel (aR H p (b,bl')++F) w':=by
 have g_:p<H.length:=(List.getElem?_eq_some_iff.1 hp).1;have hHp:H[p]=(b,bl):=(List.getElem?_eq_some_iff.1 hp).2;rw[iU];have ahe:((H.set p (b,bl')++F).map (·.1))=(H++F).map (·.1):=by
  rw[List.map_append,List.map_append,List.map_set];congr 1;apply List.ext_getElem?;intro j;rw[List.getElem?_set]
  by_cases hj:p=j
  ·subst hj;simp[g_,hHp]
  ·rw[if_neg hj]
 refine⟨?_,by rw[ahe];exact h.nodup⟩;intro x hx;obtain⟨j,hj⟩:=List.getElem?_of_mem hx
 by_cases hjp:j=p
 ·subst hjp;rw[aa4 (by simpa using g_),List.getElem?_set,if_pos rfl,if_pos g_] at hj;obtain rfl:(b,bl')=x:=by simpa using hj
  exact hd
 ·have Xc:(H++F)[j]?=some x:=by
   rcases abd j H.length with hl|hl
   ·rw[aa4 (by simpa using hl),List.getElem?_set,if_neg (λ e=>hjp e.symm)] at hj;rw[aa4 hl];exact hj
   ·rw[aa6 (by simpa using hl),List.length_set] at hj;rw[aa6 hl];exact hj
  have u_:x.1≠b:=by
   intro e;have Tl:=h.nodup;rw[List.nodup_iff_pairwise_ne,List.pairwise_iff_getElem] at Tl;have VZ:j<(H++F).length:=(List.getElem?_eq_some_iff.1 Xc).1;have iS:(H++F)[p]?=some (b,bl):=by rw[aa4 g_];exact hp
   have agM:p<(H++F).length:=(List.getElem?_eq_some_iff.1 iS).1;have e1:((H++F).map (·.1))[j]'(by rw[List.length_map];exact VZ)=x.1:=by rw[List.getElem_map,(List.getElem?_eq_some_iff.1 Xc).2]
   have e2:((H++F).map (·.1))[p]'(by rw[List.length_map];exact agM)=b:=by rw[List.getElem_map,(List.getElem?_eq_some_iff.1 iS).2]
   rcases abd j p with Yr|Yx
   ·exact Tl j p _ _ Yr (by rw[e1,e2,e])
   ·exact Tl p j _ _ (by omega) (by rw[e1,e2,e])
  rw[hs _ u_];exact h.holds x (List.mem_of_getElem? Xc)
theorem Rel.store{H F:HL}{w:World}{p:Nat}{b:Nat}{bl bl':Blk}{a:Addr}{v:Value}(h:Rel (H++F) w)(hp:H[p]?=some (b,bl))(ha:a.block=b)
  (hd:∀W:World,W.heap[b]?=some bl.den -> (W.setCell a v).heap[b]?=some bl'.den):Rel (aR H p (b,bl')++F) (w.setCell a v) :=
 h.upd hp (hd w (h.holds (b,bl) (aav _ (List.mem_of_getElem? hp)))) (λ k hk=>Below.heap_setCell _ _ _ _ (by rw[ha];exact hk))
inductive Hint where
 | own (p:Nat)
 | row (p i k:Nat)
 | ro (p:Nat)
 | rorow (p i k:Nat)
 | ix (j:Nat)
 | nw
 | sl (l h:Nat) (e:Bool)
 | mk (l c:Nat)
 | dv
 | sh (n:Nat)
 | gd (b:Bool)
 | sq
 | gen
 | mp (p:Nat) (kv:List (ByteArray × Value)) (v:Value)
 | mq (p:Nat) (kv:List (ByteArray × Value)) (v:Value)
 | sl0 (h:Nat)
structure SS where
 h:HL
 r:HL
 hints:List Hint
 cnt:Nat
 eq:List (Nat × Nat)
 ob:List Prop
 wr:Bool
def cu(P:Program)(n0:Nat){α:Type}:Sem α -> SS -> Option (α × SS)
 | .pure a,s=>some (a,s)
 | .load _ a k,s=>match s.hints with
   | .own p::hs=>match s.h[p]? with
    | some (b,.lit cs _ _)=>match a.spot,cs[a.off]? with
     | none,some v=>cu P n0 (k v) { s with hints:=hs,eq:=(a.block,b)::s.eq }
     | _,_=>none
    | _=>none
   | .row p i j::hs=>match s.h[p]? with
    | some (b,.rows w n g _ _)=>match a.spot,decide (j<w) with
     | none,true=>cu P n0 (k (g i j)) { s with hints:=hs,eq:=(a.block,b)::s.eq,ob:=(a.off=i*w+j /\ i<n)::s.ob }
     | _,_=>none
    | _=>none
   | .ro p::hs=>match s.r[p]? with
    | some (b,.lit cs _ _)=>match a.spot,cs[a.off]? with
     | none,some v=>cu P n0 (k v) { s with hints:=hs,eq:=(a.block,b)::s.eq }
     | _,_=>none
    | _=>none
   | .rorow p i j::hs=>match s.r[p]? with
    | some (b,.rows w n g _ _)=>match a.spot,decide (j<w) with
     | none,true=>cu P n0 (k (g i j)) { s with hints:=hs,eq:=(a.block,b)::s.eq,ob:=(a.off=i*w+j /\ i<n)::s.ob }
     | _,_=>none
    | _=>none
   | _=>none
 | .store _ a v k,s=>match v with
   | .agg _=>none
   | .tuple _=>none
   | v=>match s.hints with
    | .own p::hs=>match s.h[p]? with
     | some (b,.lit cs t fz)=>match a.spot,decide (a.off<cs.length),decide (fz.2=0) with
      | none,true,true=>match s.wr with
       | false=>none
       | true=>cu P n0 k { s with h:=aR s.h p (b,.lit (aR cs a.off v) t fz),hints:=hs,eq:=(a.block,b)::s.eq }
      | _,_,_=>none
     | _=>none
    | .row p i j::hs=>match s.h[p]? with
     | some (b,.rows w n g t fz)=>match a.spot,decide (j<w),decide (fz.2=0) with
      | none,true,true=>match s.wr with
       | false=>none
       | true=>cu P n0 k { s with h:=aR s.h p (b,.rows w n (eF g i j v) t fz),hints:=hs,eq:=(a.block,b)::s.eq,ob:=(a.off=i*w+j /\ i<n)::s.ob }
      | _,_,_=>none
     | _=>none
    | _=>none
 | .new o k,s=>match s.wr with
  | false=>none
  | true=>match o with
   | .cells c ty fz=>cu P n0 (k (n0+s.cnt)) { s with h:=(n0+s.cnt,.lit c.toList ty fz)::s.h,cnt:=s.cnt+1 }
   | o=>cu P n0 (k (n0+s.cnt)) { s with h:=(n0+s.cnt,.obj o)::s.h,cnt:=s.cnt+1 }
 | .program k,s=>cu P n0 (k P) s
 | .mark _ k,s=>cu P n0 k s
 | .getObj r k,s=>match s.hints with
   | .own p::hs=>match s.h[p]? with
    | some (b,.obj o)=>match o with
     | .cells _ _ _=>none
     | o=>cu P n0 (k o) { s with hints:=hs,eq:=(r,b)::s.eq }
    | _=>none
   | _=>none
 | .setObj r o k,s=>match s.hints with
   | .own p::hs=>match s.h[p]?,s.wr with
    | some (b,.obj o'),true=>match o' with
     | .cells _ _ _=>none
     | _=>cu P n0 k { s with h:=aR s.h p (b,.obj o),hints:=hs,eq:=(r,b)::s.eq }
    | _,_=>none
   | _=>none
 | _,_=>none
theorem qI{W:World}{a:Addr}{b:Nat}{cs:List Value}{ty:TypeId}{fz:Nat × Nat}{v:Value}(ha:a.block=b)(hs:a.spot=none)(h:W.heap[b]?=some (Blk.lit cs ty fz).den) :
  (W.setCell a v).heap[b]?=some (Blk.lit (aR cs a.off v) ty fz).den:=by
 subst ha;simp only[World.setCell,Array.getElem?_modify,if_true,h,Option.map_some,Blk.den,hs,Option.isSome_none,Bool.false_eq_true,if_false,iU];simp
theorem wm{W:World}{a:Addr}{b w n i k:Nat}{g:Nat -> Nat -> Value}{ty:TypeId}{fz:Nat × Nat}{v:Value}(ha:a.block=b)(hs:a.spot=none)(ho:a.off=i*w+k)(hi:i<n)(hk:k<w)
  (h:W.heap[b]?=some (Blk.rows w n g ty fz).den):(W.setCell a v).heap[b]?=some (Blk.rows w n (eF g i k v) ty fz).den:=by
 subst ha;simp only[World.setCell,Array.getElem?_modify,if_true,h,Option.map_some,Blk.den,hs,Option.isSome_none,Bool.false_eq_true,if_false,<- Aw hi hk,ho];simp
theorem dF{P:Program}{n0:Nat}{α:Type}(s:Sem α):∀ (ss n_:SS) (x:α),cu P n0 s ss=some (x,n_) -> (∀p∈ss.eq,p∈n_.eq) /\ (∀p∈ss.ob,p∈n_.ob) /\ n_.r=ss.r /\ n_.wr=ss.wr:=by
 induction s with
 | pure a=>intro ss n_ x h;rw[cu] at h;cases h;exact⟨λ _ h=>h,λ _ h=>h,rfl,rfl⟩
 | load m a k ih =>
  intro ss n_ x h;rw[cu] at h;split at h
  case h_5=>cases h
  all_goals
   split at h
   case h_2=>cases h
   split at h
   case h_2=>cases h
   obtain⟨h1,h2,h3⟩:=ih _ _ _ _ h;exact⟨λ p hp=>h1 p (aaC _ hp),λ p hp=>h2 p (by first|exact hp|exact aaC _ hp),h3⟩
 | store m a v k ih =>
  intro ss n_ x h;rw[cu.eq_def] at h;dsimp only at h;split at h
  ·cases h
  ·cases h
  ·split at h
   case h_3=>cases h
   all_goals
    split at h
    case h_2=>cases h
    split at h
    case h_2=>cases h
    split at h
    ·cases h
    obtain⟨h1,h2,h3⟩:=ih _ _ _ h;exact⟨λ p hp=>h1 p (aaC _ hp),λ p hp=>h2 p (by first|exact hp|exact aaC _ hp),h3⟩
 | new o k ih =>
  intro ss n_ x h;rw[cu.eq_def] at h;dsimp only at h;split at h
  ·cases h
  split at h <;> (have h1:=ih _ _ _ _ h;exact h1)
 | program k ih=>intro ss n_ x h;rw[cu] at h;exact ih _ _ _ _ h
 | mark m k ih=>intro ss n_ x h;rw[cu] at h;exact ih _ _ _ h
 | getObj r k ih =>
  intro ss n_ x h;rw[cu.eq_def] at h;dsimp only at h;split at h
  case h_2=>cases h
  split at h
  case h_2=>cases h
  split at h
  ·cases h
  obtain⟨h1,h2,h3⟩:=ih _ _ _ _ h;exact⟨λ p hp=>h1 p (aaC _ hp),h2,h3⟩
 | setObj r o k ih =>
  intro ss n_ x h;rw[cu.eq_def] at h;dsimp only at h;split at h
  case h_2=>cases h
  split at h
  case h_2=>cases h
  split at h
  ·cases h
  obtain⟨h1,h2,h3⟩:=ih _ _ _ h;exact⟨λ p hp=>h1 p (aaC _ hp),h2,h3⟩
 | _=>intro ss n_ x h;simp[cu] at h
theorem Cz{P:Program}{n0:Nat}{α:Type}(s:Sem α):∀ (ss n_:SS) (x:α),cu P n0 s ss=some (x,n_) -> ss.wr=false -> n_.h=ss.h:=by
 induction s with
 | pure a=>intro ss n_ x h _;rw[cu] at h;cases h;rfl
 | load m a k ih =>
  intro ss n_ x h hw;rw[cu] at h;split at h
  case h_5=>cases h
  all_goals
   split at h
   case h_2=>cases h
   split at h
   case h_2=>cases h
   exact(ih _ _ _ _ h hw :)
 | store m a v k ih =>
  intro ss n_ x h hw;rw[cu.eq_def] at h;dsimp only at h;split at h
  ·cases h
  ·cases h
  ·split at h
   case h_3=>cases h
   all_goals
    split at h
    case h_2=>cases h
    split at h
    case h_2=>cases h
    split at h
    ·cases h
    rename_i e;rw[hw] at e;cases e
 | new o k ih =>
  intro ss n_ x h hw;rw[cu.eq_def] at h;dsimp only at h;split at h
  ·cases h
  rename_i e;rw[hw] at e;cases e
 | program k ih=>intro ss n_ x h hw;rw[cu] at h;exact ih _ _ _ _ h hw
 | mark m k ih=>intro ss n_ x h hw;rw[cu] at h;exact ih _ _ _ h hw
 | getObj r k ih =>
  intro ss n_ x h hw;rw[cu.eq_def] at h;dsimp only at h;split at h
  case h_2=>cases h
  split at h
  case h_2=>cases h
  split at h
  ·cases h
  exact(ih _ _ _ _ h hw :)
 | setObj r o k ih =>
  intro ss n_ x h hw;rw[cu.eq_def] at h;dsimp only at h;split at h
  case h_2=>cases h
  split at h
  case h_2=>cases h
  rename_i e;rw[hw] at e;cases e
 | _=>intro ss n_ x h;simp[cu] at h
theorem oB{w:World}{a:Addr}{b:Nat}{cs:List Value}{ty:TypeId}{fz:Nat × Nat}{v:Value}(h:w.heap[b]?=some (Blk.lit cs ty fz).den)(ha:a.block=b)(hs:a.spot=none)(hv:cs[a.off]?=some v):w.cell? a=some v:=by
 subst ha;simp[World.cell?,h,Blk.den,hs,hv]
theorem jZ{W:World}{a:Addr}{b w n i k:Nat}{g:Nat -> Nat -> Value}{ty:TypeId}{fz:Nat × Nat}(h:W.heap[b]?=some (Blk.rows w n g ty fz).den)(ha:a.block=b)(hs:a.spot=none)(ho:a.off=i*w+k)(hi:i<n)(hk:k<w):W.cell? a=some (g i k):=by
 subst ha;simp[World.cell?,h,Blk.den,hs,ho,nF hi hk]
theorem pJ{w:World}{a:Addr}{b:Nat}{bl:Blk}(h:w.heap[b]?=some bl.den)(ha:a.block=b)(hz:match bl with | .lit _ _ fz=>fz.2=0 | .rows _ _ _ _ fz=>fz.2=0 | .obj _=>False):w.frozen? a=false:=by
 subst ha;cases bl with
 | lit cs ty fz=>obtain⟨lo,hi⟩:=fz;simp only at hz;subst hz;simp[World.frozen?,h,Blk.den]
 | rows w n g ty fz=>obtain⟨lo,hi⟩:=fz;simp only at hz;subst hz;simp[World.frozen?,h,Blk.den]
 | obj o=>exact hz.elim
theorem uy{P:Program}{α:Type}{m:Mode}{a:Addr}{v u:Value}{k:Sem α}{w:World}(h1:∀cs,v ≠ .agg cs)(h2:∀cs,v ≠ .tuple cs)(hc:w.cell? a=some u)(hf:w.frozen? a=false):(Sem.store m a v k).run P w=k.run P (w.setCell a v):=by
 rw[Sem.run.eq_def];cases v <;> first|exact absurd rfl (h1 _)|exact absurd rfl (h2 _)|simp[hc,hf]
theorem nG{P:Program}{n0:Nat}{α:Type}{F:HL}(s:Sem α):∀ (ss n_:SS) (x:α) (w:World),cu P n0 s ss=some (x,n_) ->
  (∀p∈n_.eq,p.1=p.2) -> (∀p∈n_.ob,p) -> Rel (ss.h++F) w -> (∀y∈ss.r,y∈F) -> (ss.wr=true -> n0+ss.cnt=w.heap.size) ->
  ∃w',s.run P w=.ok x w' /\ Rel (n_.h++F) w' /\ Below 0 w w' /\ (ss.wr=true -> n0+n_.cnt=w'.heap.size) /\ (ss.wr=false -> w'=w):=by
 induction s with
 | pure a=>intro ss n_ x w h _ _ hR _ hn;rw[cu] at h;cases h;exact⟨w,rfl,hR,Below.refl _ _,hn,λ _=>rfl⟩
 | load m a k ih =>
  intro ss n_ x w h heq iD hR hr hn;rw[cu] at h;have Vy:∀ (p b:Nat) (bl:Blk),ss.h[p]?=some (b,bl) -> w.heap[b]?=some bl.den:=λ p b bl hp=>hR.holds (b,bl) (aav _ (List.mem_of_getElem? hp));have Tv:∀ (p b:Nat) (bl:Blk),ss.r[p]?=some (b,bl) -> w.heap[b]?=some bl.den:=λ p b bl hp=>hR.holds (b,bl) (aau _ (hr _ (List.mem_of_getElem? hp)));split at h
  case h_5=>cases h
  ·split at h
   case h_2=>cases h
   rename_i hp;split at h
   case h_2=>cases h
   obtain⟨k1,k2,k3⟩:=dF _ _ _ _ h;rename_i v hs hv;have hc:=oB (Vy _ _ _ hp) (heq _ (k1 _ (aaA))) hs hv;obtain⟨w',h1,h2,h3,h4,h5⟩:=ih _ _ _ _ w h heq iD hR hr hn;exact⟨w',by rw[Sem.run,hc];exact h1,h2,h3,h4,h5⟩
  ·split at h
   case h_2=>cases h
   rename_i hp;split at h
   case h_2=>cases h
   obtain⟨k1,k2,k3⟩:=dF _ _ _ _ h;rename_i hs hv;obtain⟨o1,o2⟩:=iD _ (k2 _ (aaA));have hc:=jZ (Vy _ _ _ hp) (heq _ (k1 _ (aaA))) hs o1 o2 (by simpa using hv);obtain⟨w',h1,h2,h3,h4,h5⟩:=ih _ _ _ _ w h heq iD hR hr hn;exact⟨w',by rw[Sem.run,hc];exact h1,h2,h3,h4,h5⟩
  ·split at h
   case h_2=>cases h
   rename_i hp;split at h
   case h_2=>cases h
   obtain⟨k1,k2,k3⟩:=dF _ _ _ _ h;rename_i v hs hv;have hc:=oB (Tv _ _ _ hp) (heq _ (k1 _ (aaA))) hs hv;obtain⟨w',h1,h2,h3,h4,h5⟩:=ih _ _ _ _ w h heq iD hR hr hn;exact⟨w',by rw[Sem.run,hc];exact h1,h2,h3,h4,h5⟩
  ·split at h
   case h_2=>cases h
   rename_i hp;split at h
   case h_2=>cases h
   obtain⟨k1,k2,k3⟩:=dF _ _ _ _ h;rename_i hs hv;obtain⟨o1,o2⟩:=iD _ (k2 _ (aaA));have hc:=jZ (Tv _ _ _ hp) (heq _ (k1 _ (aaA))) hs o1 o2 (by simpa using hv);obtain⟨w',h1,h2,h3,h4,h5⟩:=ih _ _ _ _ w h heq iD hR hr hn;exact⟨w',by rw[Sem.run,hc];exact h1,h2,h3,h4,h5⟩
 | store m a v k ih =>
  intro ss n_ x w h heq iD hR hr hn;rw[cu.eq_def] at h;dsimp only at h;split at h
  ·cases h
  ·cases h
  ·rename_i hv1 Z_;have Vy:∀ (p b:Nat) (bl:Blk),ss.h[p]?=some (b,bl) -> w.heap[b]?=some bl.den:=λ p b bl hp=>hR.holds (b,bl) (aav _ (List.mem_of_getElem? hp));split at h
   case h_3=>cases h
   ·split at h
    case h_2=>cases h
    rename_i hp;split at h
    case h_2=>cases h
    rename_i hs g_ hz;split at h
    ·cases h
    rename_i Wu;obtain⟨k1,k2,k3⟩:=dF _ _ _ _ h;have ha:=heq _ (k1 _ (aaA));have Yr:a.off<_:=abq g_;have hc:=oB (Vy _ _ _ hp) ha hs (aa3 Yr);have hf:=pJ (Vy _ _ _ hp) ha (by simpa using hz);have G_:=hR.store (v:=v) hp ha (λ W hW=>qI ha hs hW);obtain⟨w',h1,h2,h3,h4,-⟩:=ih _ _ _ (w.setCell a v) h heq iD G_ hr (λ e=>by simpa [World.setCell] using hn e);exact⟨w',by rw[uy (λ cs e=>hv1 cs e) (λ cs e=>Z_ cs e) hc hf];exact h1,h2,((Below.refl 0 w).setCell (aaU _) v).trans h3,h4,λ e=>by rw[Wu] at e;cases e⟩
   ·split at h
    case h_2=>cases h
    rename_i hp;split at h
    case h_2=>cases h
    rename_i hs g_ hz;split at h
    ·cases h
    rename_i Wu;obtain⟨k1,k2,k3⟩:=dF _ _ _ _ h;have ha:=heq _ (k1 _ (aaA));obtain⟨o1,o2⟩:=iD _ (k2 _ (aaA));have hk:_<_:=abq g_;have hc:=jZ (Vy _ _ _ hp) ha hs o1 o2 hk;have hf:=pJ (Vy _ _ _ hp) ha (by simpa using hz);have G_:=hR.store (v:=v) hp ha (λ W hW=>wm ha hs o1 o2 hk hW);obtain⟨w',h1,h2,h3,h4,-⟩:=ih _ _ _ (w.setCell a v) h heq iD G_ hr (λ e=>by simpa [World.setCell] using hn e);exact⟨w',by rw[uy (λ cs e=>hv1 cs e) (λ cs e=>Z_ cs e) hc hf];exact h1,h2,((Below.refl 0 w).setCell (aaU _) v).trans h3,h4,λ e=>by rw[Wu] at e;cases e⟩
 | new o k ih =>
  intro ss n_ x w h heq iD hR hr hn;rw[cu.eq_def] at h;dsimp only at h;have hb:∀o':Obj,Below 0 w { w with heap:=w.heap.push o' }:=λ o'=>⟨rfl,rfl,rfl,by simp,λ k hk=>by omega⟩;split at h
  ·cases h
  rename_i Wu
  replace hn:=hn Wu
  split at h
  ·rename_i c ty fz;have G_:=hR.cons (.lit c.toList ty fz) (o:=.cells c ty fz) (by simp[Blk.den]);rw[<- hn] at G_;obtain⟨w',h1,h2,h3,h4,-⟩:=ih _ _ _ _ _ h heq iD G_ hr (λ _=>by simp;omega);refine⟨w',?_,h2,(hb _).trans h3,h4,λ e=>by rw[Wu] at e;cases e⟩;rw[Sem.run,<- hn];exact h1
  ·have G_:=hR.cons (.obj o) (o:=o) rfl;rw[<- hn] at G_;obtain⟨w',h1,h2,h3,h4,-⟩:=ih _ _ _ _ _ h heq iD G_ hr (λ _=>by simp;omega);refine⟨w',?_,h2,(hb _).trans h3,h4,λ e=>by rw[Wu] at e;cases e⟩;rw[Sem.run,<- hn];exact h1
 | program k ih =>
  intro ss n_ x w h heq iD hR hr hn;rw[cu] at h;obtain⟨w',h1,h2,h3,h4,h5⟩:=ih _ _ _ _ w h heq iD hR hr hn;exact⟨w',by rw[Sem.run];exact h1,h2,h3,h4,h5⟩
 | mark m k ih =>
  intro ss n_ x w h heq iD hR hr hn;rw[cu] at h;obtain⟨w',h1,h2,h3,h4,h5⟩:=ih _ _ _ w h heq iD hR hr hn;exact⟨w',by rw[Sem.run];exact h1,h2,h3,h4,h5⟩
 | getObj r k ih =>
  intro ss n_ x w h heq iD hR hr hn;rw[cu.eq_def] at h;dsimp only at h;split at h
  case h_2=>cases h
  split at h
  case h_2=>cases h
  rename_i hp;split at h
  ·cases h
  rename_i o Uk;obtain⟨k1,k2,k3⟩:=dF _ _ _ _ h;have ha:=heq _ (k1 _ (aaA));simp only at ha;have hb:=hR.holds _ (aav _ (List.mem_of_getElem? hp));simp only[Blk.den] at hb;obtain⟨w',h1,h2,h3,h4,h5⟩:=ih _ _ _ _ w h heq iD hR hr hn;refine⟨w',?_,h2,h3,h4,h5⟩;rw[Sem.run.eq_def];simp only[ha,hb];exact h1
 | setObj r o k ih =>
  intro ss n_ x w h heq iD hR hr hn;rw[cu.eq_def] at h;dsimp only at h;split at h
  case h_2=>cases h
  split at h
  case h_2=>cases h
  rename_i hp Wu;split at h
  ·cases h
  rename_i o' Uk;obtain⟨k1,k2,k3⟩:=dF _ _ _ _ h;have ha:=heq _ (k1 _ (aaA));simp only at ha;have hb:=hR.holds _ (aav _ (List.mem_of_getElem? hp));simp only[Blk.den] at hb;have g_:=bL hb;have G_:=hR.upd (w':={ w with heap:=w.heap.setIfInBounds r o }) (bl':=.obj o) hp (by
   subst ha;show (w.heap.setIfInBounds r o)[r]?=_;rw[Array.getElem?_setIfInBounds_self_of_lt g_];rfl) (λ k' hk=>by
   subst ha;show (w.heap.setIfInBounds r o)[k']?=_;rw[Array.getElem?_setIfInBounds_ne (λ e=>hk e.symm)])
  have Wl:Below 0 w { w with heap:=w.heap.setIfInBounds r o }:=⟨rfl,rfl,rfl,by simp,λ k hk=>by omega⟩;obtain⟨w',h1,h2,h3,h4,-⟩:=ih _ _ _ { w with heap:=w.heap.setIfInBounds r o } h heq iD G_ hr (λ e=>by simpa using hn e);refine⟨w',?_,h2,Wl.trans h3,h4,λ e=>by rw[Wu] at e;cases e⟩;rw[Sem.run.eq_def];simp only[ha,hb];rw[ha] at h1;exact h1
 | _=>intro ss n_ x w h;simp[cu] at h
abbrev FL:=List (Nat × Value)
structure Fm(N:Nat)(D:List Deferred)(L:FL)(a:Act):Prop where
 size:a.tmps.size=N
 defs:a.defers=D
 has:∀t v,L.lookup t=some v -> a.tmps[t]?=some v
def fG(L:FL):Operand -> Value
 | .tmp t=>(L.lookup t).getD undef
 | .const v=>v
 | .global g=>.pointer (some ⟨g,0,none⟩)
 | .func f=>.func (.func f) #[] #[]
def gB(L:FL):Operand -> Bool
 | .tmp t=>(L.lookup t).isSome
 | _=>true
theorem Fm.eval{N:Nat}{D:List Deferred}{L:FL}{a:Act}(h:Fm N D L a){x:Operand}(hx:gB L x=true):a.eval x=fG L x:=by
 cases x with
 | tmp t =>
  simp only[gB,Option.isSome_iff_exists] at hx;obtain⟨v,hv⟩:=hx;simp[Act.eval,fG,hv,h.has t v hv]
 | _=>rfl
def cq:Op -> Option (List Operand)
 | .alloc _=>some []
 | .move x | .assign x | .box _ x | .load _ x | .nilCheck x | .unOp _ _ x | .convert _ _ x | .sliceToArrayPointer _ x | .makeInterface _ x | .fieldAddr _ x _ | .field _ x _ | .typeAssert x _ _ _ | .extract x _ | .range _ x | .next x _=>some [x]
 | .pick c a b=>some [c,a,b]
 | .build _ ps | .buildSlice _ _ ps=>some (ps.toList.map (·.2))
 | .store _ a v | .binOp _ _ a v _ | .makeSlice _ a v | .indexAddr _ a v | .index _ a v | .lookup _ a v _=>some [a,v]
 | .makeFunc _ first captured=>some (first.toList++captured.toList)
 | .makeMap _ r=>some r.toList
 | .slice _ x l h m=>some (x::(l.toList++(h.toList++m.toList)))
 | .mapUpdate _ m k v=>some [m,k,v]
 | .insert _ m k v=>some [m,k,v]
 | .call c=>some ((match c.callee with | .value f=>[f] | .invoke r _=>[r] | .builtin _=>[])++c.args.toList)
 | _=>none
theorem uz{o:Op}{l:List Operand}(h:cq o=some l):(∀x∈o.operands,x∈l) /\ ∀cs b,o ≠ .select cs b:=by
 cases o <;> simp only[cq,Option.some.injEq,reduceCtorEq] at h <;> subst h <;> refine⟨?_,by simp⟩ <;> intro x hx <;> simp[Op.operands,Call.operands] at hx ⊢ <;>
  first
   | done
   | exact hx
   | (rename_i c;obtain⟨callee,args,ats⟩:=c;cases callee <;> simp_all)
   | skip
def iW(o:Op)(L:FL):Bool:=match cq o with
 | some l=>l.all (gB L)
 | none=>false
theorem Fm.exec{N:Nat}{D:List Deferred}{L:FL}{a:Act}(h:Fm N D L a){o:Oper}(ho:iW o.op L=true):execOp a.eval o=execOp (fG L) o:=by
 unfold iW at ho;split at ho
 ·rename_i l hl;obtain⟨h1,h2⟩:=uz hl;exact execOp_congr o h2 λ x hx=>h.eval (List.all_eq_true.1 ho x (h1 x hx))
 ·cases ho
def dV(N:Nat)(dst:Option Tmp)(v:Value)(L:FL):Option FL:=match dst with
 | none=>some L
 | some d=>match decide (d<N) with
  | true=>some ((d,v)::L)
  | false=>none
theorem Fm.put{N:Nat}{D:List Deferred}{L L':FL}{a:Act}(h:Fm N D L a){dst:Option Tmp}{v:Value}(hp:dV N dst v L=some L'):Fm N D L' (a.put dst v):=by
 unfold dV at hp;cases dst with
 | none=>cases hp;exact h
 | some d =>
  simp only at hp;split at hp
  ·rename_i hd;cases hp;have UT:d<N:=abq hd;refine⟨by simp[Act.put,h.size],h.defs,?_⟩;intro t u ht;simp only[Act.put];rw[List.lookup_cons] at ht
   by_cases e:t=d
   ·subst e;simp at ht;subst ht;rw[Array.getElem?_setIfInBounds_self_of_lt (by rw[h.size];exact UT)]
   ·rw[Array.getElem?_setIfInBounds_ne (λ e'=>e e'.symm)];have:(t == d)=false:=by simpa using e
    rw[this] at ht;exact h.has t u ht
  ·cases hp
def uA(keys:List Nat)(L:FL):Option FL:=match keys with
 | []=>some []
 | t::ks=>match L.lookup t,uA ks L with
  | some v,some l=>some ((t,v)::l)
  | _,_=>none
theorem oC{L:FL}:∀ {keys:List Nat} {L':FL},uA keys L=some L' -> ∀t v,L'.lookup t=some v -> L.lookup t=some v
 | [],L',h,t,v,hl=>by rw[uA] at h;cases h;cases hl
 | k::ks,L',h,t,v,hl=>by
  rw[uA] at h;split at h
  ·rename_i u l hu hp;cases h;rw[List.lookup_cons] at hl
   by_cases e:t=k
   ·subst e;simp at hl;subst hl;exact hu
   ·have:(t == k)=false:=by simpa using e
    rw[this] at hl;exact oC hp t v hl
  ·cases h
theorem Fm.pick{N:Nat}{D:List Deferred}{L L':FL}{a:Act}(h:Fm N D L a){keys:List Nat}(hp:uA keys L=some L'):Fm N D L' a :=
 ⟨h.size,h.defs,λ t v ht=>h.has t v (oC hp t v ht)⟩
def Gu(a:Addr)(n:Nat):Addr:=⟨a.block,a.off+n,none⟩
theorem r8{a:Addr}(h:a.spot=none)(n:Nat):a.add n=Gu a n:=by
 unfold Addr.add Gu;split
 ·subst n;cases a;simp at h;subst h;rfl
 ·rfl
def KF(ρ:Operand -> Value)(x:Option Operand)(n d:Nat):Prop:=match x with
 | some v=>match ρ v with
  | .int _ z=>z=(n:Int)
  | _=>False
 | none=>n=d
theorem nH{P:Program}{ρ:Operand -> Value}{lo hi:Option Operand}{l h len cap:Nat}(o1:KF ρ lo l 0)(o2:KF ρ hi h len)(o3:l <= h)(o4:h <= cap)(W:World) :
  (Instr.sliceBounds true len cap (lo.map ρ) (hi.map ρ) none).run P W=.ok (l,h,cap) W:=by
 have b1:∀ (k:IntKind) (y n:Nat) (c:BoundsCode),n <= y -> (Instr.sliceBound (.int k (n:Int)) y c).run P W=.ok n W:=by
  intro k y n c hny;simp[Instr.sliceBound,asIntOf,hny,go_sem]
 have g:∀ (x:Option Operand) (n d:Nat),KF ρ x n d -> (x=none /\ n=d) \/ ∃v k,x=some v /\ ρ v=.int k (n:Int):=by
  intro x n d hb;cases x with
  | none=>exact .inl ⟨rfl,hb⟩
  | some v =>
   right;unfold KF at hb;simp only at hb;cases hv:ρ v <;> rw[hv] at hb <;> simp only at hb
   exact⟨v,_,rfl,by rw[hv,hb]⟩
 unfold Instr.sliceBounds;rcases g _ _ _ o1 with ⟨rfl,rfl⟩|⟨v,k,rfl,hv⟩ <;> rcases g _ _ _ o2 with ⟨rfl,rfl⟩|⟨v',k',rfl,hv'⟩
 ·simp[abp]
 ·simp[abp,hv',b1,o4]
 ·simp[abp,hv,b1,o3]
 ·simp[abp,hv,hv',b1,o3,o4]
def CA(P:Program)(t:TypeId)(cs:Array Value)(off:Nat):Option Value:=match P.underlying t with
 | some (.struct _)=>match P.info? t with
  | some i=>some (.agg (cs.extract off (off+i.size)))
  | none=>none
 | some (.array _ _)=>match P.info? t with
  | some i=>some (.agg (cs.extract off (off+i.size)))
  | none=>none
 | some _=>cs[off]?
 | none=>none
def P2(P:Program)(rec:TypeId -> Value -> Value -> Option Bool)(xs ys:Array Value):List Field -> Option Bool
 | []=>some true
 | f :: fs=>match decide (f.name="_") with
  | true=>P2 P rec xs ys fs
  | false=>match CA P f.type xs f.offset,CA P f.type ys f.offset with
   | some a,some b=>match rec f.type a b,P2 P rec xs ys fs with
    | some r,some r'=>some (r && r')
    | _,_=>none
   | _,_=>none
def PU(P:Program):Nat -> TypeId -> Value -> Value -> Option Bool
 | 0,_,_,_=>none
 | d+1,t,x,y=>match P.underlying t,x,y with
  | some (.int _),.int k a,.int k' b=>match decide (k=k') with
   | true=>some (decide (a=b))
   | false=>none
  | some .bool,.bool a,.bool b=>some (a == b)
  | some (.struct fs),.agg xs,.agg ys=>match P.stoodInHeld t with
   | false=>P2 P (PU P d) xs ys fs.toList
   | true=>none
  | _,_,_=>none
theorem xB{P:Program}{t:TypeId}{cs:Array Value}{off:Nat}{v:Value}(h:CA P t cs off=some v)(w:World):(part t cs off).run P w=.ok v w:=by
 have und:∀d,P.underlying t=some d -> ∀W,(underlying t).run P W=.ok d W:=λ d hd W=>by simp[underlying,program,bind,Sem.bind,Sem.run,hd,pure]
 have inf:∀i,P.info? t=some i -> ∀W,(typeInfo t).run P W=.ok i W:=λ i hd W=>by simp[typeInfo,program,bind,Sem.bind,Sem.run,hd,pure]
 unfold CA at h;split at h
 ·rename_i fs hu;split at h
  ·rename_i i hi;cases h;simp[part,isAgg,abp,und _ hu,sizeOf,inf _ hi]
  ·cases h
 ·rename_i n e hu;split at h
  ·rename_i i hi;cases h;simp[part,isAgg,abp,und _ hu,sizeOf,inf _ hi]
  ·cases h
 ·rename_i d h1 h2 hu;have hag:(isAgg t).run P w=.ok false w:=by
   unfold isAgg;rw[abp,und _ hu];simp only[abm];cases d <;> first|rfl|exact(h1 _ rfl).elim|exact(h2 _ _ rfl).elim
  simp[part,abp,hag,h]
 ·cases h
theorem CB{P:Program}:∀ (d:Nat) (t:TypeId) (x y:Value) (b:Bool) (w:World),PU P d t x y=some b -> (Op.equalIn d t x y).run P w=.ok b w
 | 0,t,x,y,b,w,h=>by simp[PU] at h
 | d+1,t,x,y,b,w,h=>by
  unfold PU at h;split at h
  case h_1 =>
   rename_i k1 k a k' b' hu;split at h
   ·rename_i hk;cases h;have:k=k':=abq hk;subst this;rw[run_equalIn_int w d t k k1 a b' hu];rfl
   ·cases h
  case h_2 =>
   rename_i a b' hu;cases h;exact run_equalIn_bool' w d t a b' hu
  case h_3 =>
   rename_i fs xs ys hu;split at h
   ·rename_i hs;have hf:P.fieldsOf t=fs:=by simp[Program.fieldsOf,hu]
    rw[run_equalIn_agg w d t xs ys (by rw[hf];exact hu) hs,hf];revert h;generalize fs.toList=l;clear hu hf
    induction l generalizing b with
    | nil=>intro h;simp[P2] at h;subst h;simp[Op.eqFields]
    | cons f fs ih =>
     intro h;rw[P2] at h;split at h
     ·rename_i hn;have Yq:f.name="_":=abq hn;rw[Op.eqFields,if_neg (by simp[Yq])];exact ih _ h
     ·rename_i hn;have Yq:¬ f.name="_":=of_decide_eq_false hn;split at h
      ·rename_i u v hu hv;split at h
       ·rename_i r r' hr XJ;cases h;rw[Op.eqFields,if_pos Yq];simp only[abp,xB hu,xB hv,abm,CB d _ _ _ _ w hr];cases r
        ·simp
        ·simpa using ih _ XJ
       ·cases h
      ·cases h
   ·cases h
  case h_4=>cases h
def Gv(s:ByteArray)(j:Nat):Int:=((s[j]?).getD 0).toNat
theorem oD{P:Program}{α:Type}(k:Program -> Sem α)(w:World):((program >>= k):Sem α).run P w=(k P).run P w:=rfl
theorem dG{P:Program}{t:TypeId}{i:TypeInfo}(h:P.info? t=some i)(w:World):(typeInfo t).run P w=.ok i w:=by
 simp[typeInfo,program,bind,Sem.bind,Sem.run,h,pure]
theorem aE{P:Program}{t:TypeId}{i:TypeDesc}(h:P.underlying t=some i)(w:World):(underlying t).run P w=.ok i w:=by
 simp[underlying,program,bind,Sem.bind,Sem.run,h,pure]
theorem Gw{a b:ByteArray}:(a == b)=true↔a=b:=by
 obtain⟨a⟩:=a;obtain⟨b⟩:=b;show (a == b)=true↔_;simp
theorem KG(a:ByteArray):(a == a)=true:=Gw.2 rfl
def xC:Nat -> List (ByteArray × Value) -> List MapEntry
 | _,[]=>[]
 | i,(k,v)::l=>{ key:=.string k,val:=v,born:=i }::xC (i+1) l
abbrev Gx(kv:List (ByteArray × Value)):Obj:=.map ⟨xC 0 kv⟩ kv.length
def wo:List (ByteArray × Value) -> ByteArray -> Option Value
 | [],_=>none
 | (k',v)::l,k=>if (k == k')=true then some v else wo l k
def Ay:List (ByteArray × Value) -> ByteArray -> Nat -> Option (Nat × Value)
 | [],_,_=>none
 | (k',v)::l,k,i=>if (k == k')=true then some (i,v) else Ay l k (i+1)
theorem uB(k:ByteArray):∀ (kv:List (ByteArray × Value)) (b i:Nat),Instr.findNow .string (.string k) (xC b kv) i=some (Ay kv k i)
 | [],_,_=>rfl
 | (k',v)::l,b,i=>by
  rw[xC,Instr.findNow,Ay];simp only[Instr.sameNow];cases h:(k == k') with
  | true=>simp
  | false=>simp[uB k l (b+1) (i+1)]
theorem xD(k:ByteArray):∀ (kv:List (ByteArray × Value)) (i:Nat),(Ay kv k i).map (·.2)=wo kv k
 | [],_=>rfl
 | (k',v)::l,i=>by
  rw[Ay,wo];split
  ·rfl
  ·exact xD k l (i+1)
theorem D9{P:Program}{kt:TypeId}(hk:P.underlying kt=some .string)(k:ByteArray)(kv:List (ByteArray × Value))(b:Nat)(w:World):(Instr.findKey kt (.string k) (xC b kv)).run P w=.ok (Ay kv k 0) w:=by
 unfold Instr.findKey;rw[abp,aE hk];simp only[Result.andThen,uB];rfl
theorem Az{P:Program}{kt:TypeId}(hk:P.underlying kt=some .string)(e:Bool)(k:ByteArray)(w:World):(Instr.checkKey e 10000 kt (.string k)).run P w=.ok () w:=by
 rw[show (10000:Nat)=9999+1 from rfl,Instr.checkKey.eq_def];simp only;rw[abp,aE hk];rfl
theorem cf{P:Program}{α:Type}(a:α)(w:World):((pure a:Sem α)).run P w=.ok a w:=rfl
theorem f5{P:Program}{w:World}{r:Nat}{es:Array MapEntry}{c:Nat}(h:w.heap[r]?=some (.map es c)):(getObj r).run P w=.ok (.map es c) w:=by
 unfold getObj;rw[Sem.run.eq_def];simp only[h];rfl
theorem AA{P:Program}{w:World}{t kt et:TypeId}{b:Nat}{kv:List (ByteArray × Value)}{k:ByteArray}{z:Value}{i:TypeInfo}(ok:Bool)(ht:P.underlying t=some (.map kt et))(hk:P.underlying kt=some .string)(hi:P.info? et=some i)(hz:i.zero=some z)(hb:w.heap[b]?=some (Gx kv)) :
  (Instr.lookup t (.map (some b)) (.string k) ok).run P w=.ok (if ok=true then .tuple #[(wo kv k).getD z,.bool (wo kv k).isSome] else (wo kv k).getD z) w:=by
 unfold Instr.lookup;rw[abp,aE ht];simp only[Result.andThen,abp,f5 hb,cf,Az hk,D9 hk];rw[<- xD k kv 0];cases h:Ay kv k 0 with
 | some x =>
  obtain⟨j,v⟩:=x;cases ok <;> rfl
 | none =>
  simp only[zeroValue,abp,dG hi,Result.andThen,hz,cf];cases ok <;> rfl
abbrev lkV(kv:List (ByteArray × Value))(k:ByteArray)(ok:Bool)(z:Value):Value:=if ok=true then .tuple #[(wo kv k).getD z,.bool (wo kv k).isSome] else (wo kv k).getD z
theorem Gy(a b:ByteArray):(a.toList == b.toList)=decide (a=b):=by
 rw[ByteArray.toList_eq,ByteArray.toList_eq,Bool.eq_iff_iff,decide_eq_true_iff,beq_iff_eq];constructor
 ·intro h;exact ByteArray.ext (Array.toList_inj.mp h)
 ·rintro rfl;rfl
def ev(P:Program)(n0:Nat)(o:Oper)(ρ:Operand -> Value)(s:SS):Option (Next × SS) :=
 match o.op with
 | .indexAddr t x ix=>match s.hints with
  | .ix j::hs=>match P.underlying t,ρ x,ρ ix with
   | some (.slice elem),.slice (some a) len _,.int _ i=>match a.spot,P.info? elem with
    | none,some inf=>some (.value (.pointer (some (Gu a (j*inf.size)))),{ s with hints:=hs,ob:=(i=(j:Int) /\ j<len)::s.ob })
    | _,_=>none
   | some (.array len elem),.pointer (some a),.int _ i=>match a.spot,P.info? elem with
    | none,some inf=>some (.value (.pointer (some (Gu a (j*inf.size)))),{ s with hints:=hs,ob:=(i=(j:Int) /\ j<len)::s.ob })
    | _,_=>none
   | _,_,_=>none
  | .gen::hs=>cu P n0 (execOp ρ o) { s with hints:=hs }
  | _=>cu P n0 (execOp ρ o) s
 | .binOp op t x y _=>match s.hints with
  | .nw::hs=>match op,ρ x,ρ y with
   | .add,.int .i64 a,.int .i64 b=>some (.value (.int .i64 (a+b)),{ s with hints:=hs,ob:=(-9223372036854775808 <= a+b /\ a+b <= 9223372036854775807)::s.ob })
   | .sub,.int .i64 a,.int .i64 b=>some (.value (.int .i64 (a-b)),{ s with hints:=hs,ob:=(-9223372036854775808 <= a-b /\ a-b <= 9223372036854775807)::s.ob })
   | .mul,.int .i64 a,.int .i64 b=>some (.value (.int .i64 (a*b)),{ s with hints:=hs,ob:=(-9223372036854775808 <= a*b /\ a*b <= 9223372036854775807)::s.ob })
   | .quo,.int .i64 a,.int .i64 b=>some (.value (.int .i64 (a / b)),{ s with hints:=hs,ob:=(0 <= a /\ 0<b /\ a <= 9223372036854775807)::s.ob })
   | .rem,.int .i64 a,.int .i64 b=>some (.value (.int .i64 (a % b)),{ s with hints:=hs,ob:=(0 <= a /\ 0<b /\ a <= 9223372036854775807)::s.ob })
   | _,_,_=>none
  | .dv::hs=>match op,ρ x,ρ y with
   | .quo,.int .i64 a,.int .i64 b=>some (.value (.int .i64 (i64.wrap (a.tdiv b))),{ s with hints:=hs,ob:=(b≠0)::s.ob })
   | .rem,.int .i64 a,.int .i64 b=>some (.value (.int .i64 (a.tmod b)),{ s with hints:=hs,ob:=(b≠0)::s.ob })
   | .shl,.int k a,.int _ b=>some (.value (.int k (k.wrap (a*2 ^ min b.toNat k.bits))),{ s with hints:=hs,ob:=(0 <= b)::s.ob })
   | .shr,.int k a,.int _ b=>some (.value (.int k (a.fdiv (2 ^ min b.toNat k.bits))),{ s with hints:=hs,ob:=(0 <= b)::s.ob })
   | _,_,_=>none
  | .sq::hs=>match op,ρ x,ρ y with
   | .eql,.agg xs,.agg ys=>match P.eqGuardType P.depth t,PU P 10000 t (.agg xs) (.agg ys) with
    | false,some b=>some (.value (.bool b),{ s with hints:=hs })
    | _,_=>none
   | .neq,.agg xs,.agg ys=>match P.eqGuardType P.depth t,PU P 10000 t (.agg xs) (.agg ys) with
    | false,some b=>some (.value (.bool (!b)),{ s with hints:=hs })
    | _,_=>none
   | .eql,.string a,.string b=>some (.value (.bool (decide (a=b))),{ s with hints:=hs })
   | .neq,.string a,.string b=>some (.value (.bool (!decide (a=b))),{ s with hints:=hs })
   | _,_,_=>none
  | .gen::hs=>cu P n0 (execOp ρ o) { s with hints:=hs }
  | _=>cu P n0 (execOp ρ o) s
 | .index t x ix=>match s.hints with
  | .ix j::hs=>match P.underlying t,ρ x,ρ ix with
   | some .string,.string b,.int _ i=>some (.value (.int .u8 (Gv b j)),{ s with hints:=hs,ob:=(i=(j:Int) /\ j<b.size)::s.ob })
   | _,_,_=>none
  | .gen::hs=>cu P n0 (execOp ρ o) { s with hints:=hs }
  | _=>cu P n0 (execOp ρ o) s
 | .unOp op t x=>match s.hints with
  | .nw::hs=>match op,ρ x with
   | .neg,.int .i64 a=>some (.value (.int .i64 (-a)),{ s with hints:=hs,ob:=(-9223372036854775807 <= a /\ a <= 9223372036854775808)::s.ob })
   | _,_=>none
  | .gen::hs=>cu P n0 (execOp ρ o) { s with hints:=hs }
  | _=>cu P n0 (execOp ρ o) s
 | .slice t x lo hi mx=>match s.hints with
  | .sl l h e::hs=>match P.underlying t,ρ x,mx with
   | some (.slice elem),.slice a len cap,none=>match a,P.info? elem with
    | none,some inf=>some (.value (.slice none (h-l) (cap-l)),{ s with hints:=hs,ob:=(KF ρ lo l 0 /\ KF ρ hi h len /\ l <= h /\ h <= cap)::s.ob })
    | some a,some inf=>match a.spot with
     | none=>some (.value (.slice (some (match e with|true=>a|false=>Gu a (l*inf.size))) (h-l) (cap-l)),{ s with hints:=hs,ob:=(KF ρ lo l 0 /\ KF ρ hi h len /\ l <= h /\ h <= cap /\ (match e with|true=>cap=l|false=>cap≠l))::s.ob })
     | _=>none
    | _,_=>none
   | _,_,_=>none
  | .gen::hs=>cu P n0 (execOp ρ o) { s with hints:=hs }
  | .sl0 h::hs=>match P.underlying t,ρ x,lo,mx with
   | some (.slice elem),.slice a len cap,none,none=>match P.info? elem with
    | some inf=>some (.value (.slice a h cap),{ s with hints:=hs,ob:=(KF ρ hi h len /\ h <= cap)::s.ob })
    | none=>none
   | _,_,_,_=>none
  | _=>cu P n0 (execOp ρ o) s
 | .makeSlice t x y=>match s.hints with
  | .mk l c::hs=>match P.underlying t,ρ x,ρ y with
   | some (.slice elem),.int .i64 a,.int .i64 b=>match P.info? elem with
    | some inf=>match inf.zero,s.wr with
     | some z,true=>some (.value (.slice (some ⟨n0+s.cnt,0,none⟩) l c),{ s with h:=(n0+s.cnt,.rows inf.size c (λ _ k=>z.cells.getD k default) elem (0,0))::s.h,cnt:=s.cnt+1,hints:=hs,ob:=(a=(l:Int) /\ b=(c:Int) /\ l <= c /\ inf.bytes*c <= 140737488355328 /\ z.cells.size=inf.size /\ c <= 9223372036854775807)::s.ob })
     | _,_=>none
    | none=>none
   | _,_,_=>none
  | .gen::hs=>cu P n0 (execOp ρ o) { s with hints:=hs }
  | _=>cu P n0 (execOp ρ o) s
 | .pick x a b=>match s.hints with
  | .gd c::hs=>match ρ x with
   | .bool t=>some (.value (match c with|true=>ρ a|false=>ρ b),{ s with hints:=hs,ob:=(t=c)::s.ob })
   | _=>none
  | .gen::hs=>cu P n0 (execOp ρ o) { s with hints:=hs }
  | _=>cu P n0 (execOp ρ o) s
 | .lookup t x ix ok=>match s.hints with
  | .mp p kv v::hs=>match P.underlying t,ρ x,ρ ix,s.h[p]? with
   | some (.map kt et),.map (some b),.string k,some (b',.obj O)=>match P.underlying kt,(P.info? et).bind (·.zero) with
    | some .string,some z=>some (.value v,{ s with hints:=hs,eq:=(b,b')::s.eq,ob:=(O=Gx kv /\ lkV kv k ok z=v)::s.ob })
    | _,_=>none
   | _,_,_,_=>none
  | .mq p kv v::hs=>match P.underlying t,ρ x,ρ ix,s.r[p]? with
   | some (.map kt et),.map (some b),.string k,some (b',.obj O)=>match P.underlying kt,(P.info? et).bind (·.zero) with
    | some .string,some z=>some (.value v,{ s with hints:=hs,eq:=(b,b')::s.eq,ob:=(O=Gx kv /\ lkV kv k ok z=v)::s.ob })
    | _,_=>none
   | _,_,_,_=>none
  | .gen::hs=>cu P n0 (execOp ρ o) { s with hints:=hs }
  | _=>cu P n0 (execOp ρ o) s
 | _=>cu P n0 (execOp ρ o) s
theorem dH{P:Program}{n0:Nat}{o:Oper}{ρ:Operand -> Value}{ss n_:SS}{x:Next}(h:ev P n0 o ρ ss=some (x,n_)):(∀p∈ss.eq,p∈n_.eq) /\ (∀p∈ss.ob,p∈n_.ob) /\ n_.r=ss.r /\ n_.wr=ss.wr:=by
 unfold ev at h
 repeat' split at h
 all_goals first
  | exact(dF _ _ _ _ h :)
  | (cases h;done)
  | (cases h;exact⟨λ _ h=>h,λ _ h=>aaC _ h,rfl,rfl⟩)
  | (cases h;exact⟨λ _ h=>aaC _ h,λ _ h=>aaC _ h,rfl,rfl⟩)
  | (cases h;exact⟨λ _ h=>h,λ _ h=>h,rfl,rfl⟩)
theorem xE(z:Array Value)(c:Nat):((Array.range (c*z.size)).map λ i=>z[i % z.size]!)=⟨bC z.size (λ _ k=>z.getD k default) c⟩:=by
 apply Array.ext';rw[Array.toList_map,Array.toList_range];show _=bC _ _ _
 symm
 refine iT (by simp) ?_;intro i k hi hk;have h1:i*z.size+k<c*z.size:=by
  have:(i+1)*z.size <= c*z.size:=Nat.mul_le_mul_right _ hi;rw[Nat.succ_mul] at this;omega
 rw[abv,List.getElem?_range h1];simp only[Option.map_some,Nat.mul_add_mod_self_right,Nat.mod_eq_of_lt hk];simp[getElem!_def,Array.getD,hk,getElem?_pos]
theorem gO{P:Program}{n0:Nat}{F:HL}{o:Oper}{ρ:Operand -> Value}{ss n_:SS}{x:Next}{w:World}(h:ev P n0 o ρ ss=some (x,n_))
  (heq:∀p∈n_.eq,p.1=p.2) (iD:∀p∈n_.ob,p) (hR:Rel (ss.h++F) w) (hr:∀y∈ss.r,y∈F) (hn:ss.wr=true -> n0+ss.cnt=w.heap.size) :
  ∃w',(execOp ρ o).run P w=.ok x w' /\ Rel (n_.h++F) w' /\ Below 0 w w' /\ (ss.wr=true -> n0+n_.cnt=w'.heap.size) /\ (ss.wr=false -> w'=w):=by
 have g:∀hs:List Hint,cu P n0 (execOp ρ o) { ss with hints:=hs }=some (x,n_) -> ∃w',(execOp ρ o).run P w=.ok x w' /\ Rel (n_.h++F) w' /\ Below 0 w w' /\ (ss.wr=true -> n0+n_.cnt=w'.heap.size) /\ (ss.wr=false -> w'=w):=λ hs h=>by
  have h1:=nG (F:=F) (w:=w) _ _ _ _ h heq iD hR hr hn;exact h1
 have g':cu P n0 (execOp ρ o) ss=some (x,n_) -> ∃w',(execOp ρ o).run P w=.ok x w' /\ Rel (n_.h++F) w' /\ Below 0 w w' /\ (ss.wr=true -> n0+n_.cnt=w'.heap.size) /\ (ss.wr=false -> w'=w):=λ h=>by
  exact nG (F:=F) (w:=w) _ _ _ _ h heq iD hR hr hn
 unfold ev at h;split at h
 ·-- indexAddr
  rename_i t x' ix' j_;split at h
  case h_2=>exact g _ h
  case h_3=>exact g' h
  split at h
  ·rename_i elem a len cap k i hu hx hi;split at h
   case h_2=>cases h
   rename_i inf hs TA;cases h;obtain⟨o1,o2⟩:=iD _ (aaA);refine⟨w,?_,hR,Below.refl _ _,hn,λ _=>rfl⟩;subst o1;simp[execOp,j_,Instr.indexAt,hx,hi,asIntOf,underlying,hu,sizeOf,typeInfo,TA,oD,go_sem,r8 hs,o2,program,bind,Sem.bind,Sem.run,pure]
  ·rename_i len elem a k i hu hx hi;split at h
   case h_2=>cases h
   rename_i inf hs TA;cases h;obtain⟨o1,o2⟩:=iD _ (aaA);refine⟨w,?_,hR,Below.refl _ _,hn,λ _=>rfl⟩;subst o1;simp[execOp,j_,Instr.indexAt,hx,hi,asIntOf,underlying,hu,sizeOf,typeInfo,TA,oD,go_sem,r8 hs,o2,program,bind,Sem.bind,Sem.run,pure,Instr.sureAddr]
  ·cases h
 ·-- binOp
  rename_i op t x' y' ty j_;split at h
  case h_4=>exact g _ h
  case h_5=>exact g' h
  case h_3 =>
   split at h
   case h_5=>cases h
   case h_3 =>
    rename_i a b hx hy;cases h;exact⟨w,by simp[execOp,j_,hx,hy,eqGuard,Go.binOp,Op.stringOp,Gy,pure,bind,Sem.bind,Sem.run],hR,Below.refl _ _,hn,λ _=>rfl⟩
   case h_4 =>
    rename_i a b hx hy;cases h;exact⟨w,by simp[execOp,j_,hx,hy,eqGuard,Go.binOp,Op.stringOp,Gy,bne,pure,bind,Sem.bind,Sem.run],hR,Below.refl _ _,hn,λ _=>rfl⟩
   all_goals
    rename_i xs ys hx hy;split at h
    case h_2=>cases h
    rename_i b hg he;cases h;refine⟨w,?_,hR,Below.refl _ _,hn,λ _=>rfl⟩;have e2:=λ W=>CB _ _ _ _ _ W he;simp[execOp,j_,hx,hy,abp,run_eqGuard_agg w _ t x' y' xs ys hg,run_eql_struct,run_neq_struct,e2]
  ·split at h
   case h_6=>cases h
   case h_4 =>
    rename_i a b hx hy;cases h;obtain⟨o1,o2,o3⟩:=iD _ (aaA);refine⟨w,?_,hR,Below.refl _ _,hn,λ _=>rfl⟩;have h1:a / b <= a:=Int.ediv_le_self _ o1;have h2:0 <= a / b:=Int.ediv_nonneg o1 (by omega);have hw:i64.wrap (a.tdiv b)=a / b:=by rw[Int.tdiv_eq_ediv_of_nonneg o1,IntKind.wrap_i64];omega
    have o4:¬ b=0:=by omega
    simp[execOp,j_,hx,hy,eqGuard,Go.binOp,Op.intDiv,o4,hw,pure,bind,Sem.bind,Sem.run]
   case h_5 =>
    rename_i a b hx hy;cases h;obtain⟨o1,o2,o3⟩:=iD _ (aaA);refine⟨w,?_,hR,Below.refl _ _,hn,λ _=>rfl⟩;have hw:a.tmod b=a % b:=Int.tmod_eq_emod_of_nonneg o1;have o4:¬ b=0:=by omega
    simp[execOp,j_,hx,hy,eqGuard,Go.binOp,Op.intDiv,o4,hw,pure,bind,Sem.bind,Sem.run]
   all_goals
    rename_i a b hx hy;cases h;have o1:=iD _ (aaA);refine⟨w,?_,hR,Below.refl _ _,hn,λ _=>rfl⟩;have hw:∀z:Int,-9223372036854775808 <= z /\ z <= 9223372036854775807 -> i64.wrap z=z:=λ z hz=>by rw[IntKind.wrap_i64];omega
    simp[execOp,j_,hx,hy,eqGuard,Go.binOp,Op.intArith,hw _ o1,pure,bind,Sem.bind,Sem.run]
  ·split at h
   case h_5=>cases h
   case h_3 =>
    rename_i k a yk b hx hy;cases h;have o1:¬ b<0:=by have:0 <= b:=iD _ (aaA);omega
    refine⟨w,?_,hR,Below.refl _ _,hn,λ _=>rfl⟩;simp[execOp,j_,hx,hy,eqGuard,Go.binOp,Op.shift,o1,pure,bind,Sem.bind,Sem.run]
   case h_4 =>
    rename_i k a yk b hx hy;cases h;have o1:¬ b<0:=by have:0 <= b:=iD _ (aaA);omega
    refine⟨w,?_,hR,Below.refl _ _,hn,λ _=>rfl⟩;simp[execOp,j_,hx,hy,eqGuard,Go.binOp,Op.shift,o1,pure,bind,Sem.bind,Sem.run]
   all_goals
    rename_i a b hx hy;cases h;have o1:b≠0:=iD _ (aaA);refine⟨w,?_,hR,Below.refl _ _,hn,λ _=>rfl⟩;simp[execOp,j_,hx,hy,eqGuard,Go.binOp,Op.intDiv,o1,pure,bind,Sem.bind,Sem.run]
 ·-- index
  rename_i t x' ix' j_;split at h
  case h_2=>exact g _ h
  case h_3=>exact g' h
  split at h
  case h_2=>cases h
  rename_i b k i hu hx hi;cases h;obtain⟨o1,o2⟩:=iD _ (aaA);refine⟨w,?_,hR,Below.refl _ _,hn,λ _=>rfl⟩;subst o1;have k3:=λ W=>aE hu W;simp[execOp,j_,Instr.index,hx,hi,asIntOf,k3,abp,o2,Gv]
 ·-- unOp
  rename_i op t x' j_;split at h
  case h_2=>exact g _ h
  case h_3=>exact g' h
  split at h
  case h_2=>cases h
  rename_i a hx;cases h;have o1:=iD _ (aaA);refine⟨w,?_,hR,Below.refl _ _,hn,λ _=>rfl⟩;have hw:i64.wrap (-a)=-a:=by rw[IntKind.wrap_i64];omega
  simp[execOp,j_,hx,Op.unary,Op.intArith,hw,pure,bind,Sem.bind,Sem.run]
 ·-- slice
  rename_i t x' lo hi mx j_;split at h
  case h_2=>exact g _ h
  case h_4=>exact g' h
  case h_3 =>
   rename_i hh hs Xe;split at h
   case h_2=>cases h
   rename_i elem a len cap hu hx;split at h
   case h_2=>cases h
   rename_i inf TA;cases h;obtain⟨o2,o4⟩:=iD _ (aaA);refine⟨w,?_,hR,Below.refl _ _,hn,λ _=>rfl⟩;have k1:=nH (P:=P) (ρ:=ρ) (lo:=none) (hi:=hi) (l:=0) (h:=hh) (len:=len) (cap:=cap) rfl o2 (aaU _) o4 w;have k2:=λ W=>dG TA W;have k3:=λ W=>aE hu W;have ea:(if cap=0 then a else Option.map (λ x=>x.add 0) a)=a:=by
    split
    ·rfl
    ·cases a <;> simp[Addr.add]
   rw[show Option.map ρ none=none from rfl] at k1;simp[execOp,j_,Instr.sliceAt,Instr.slice,hx,k3,sizeOf,k2,abp,k1,ea]
  rename_i l hh e hs Xe;split at h
  case h_2=>cases h
  rename_i elem a len cap hu hx;split at h
  case h_3=>cases h
  ·rename_i inf TA;cases h;obtain⟨o1,o2,o3,o4⟩:=iD _ (aaA);refine⟨w,?_,hR,Below.refl _ _,hn,λ _=>rfl⟩;have k1:=nH (P:=P) o1 o2 o3 o4 w;have k2:=λ W=>dG TA W;have k3:=λ W=>aE hu W;simp[execOp,j_,Instr.sliceAt,Instr.slice,hx,k3,sizeOf,k2,abp,k1]
  ·rename_i a inf TA;split at h
   case h_2=>cases h
   rename_i Vu;cases h;obtain⟨o1,o2,o3,o4,o5⟩:=iD _ (aaA);refine⟨w,?_,hR,Below.refl _ _,hn,λ _=>rfl⟩;have k1:=nH (P:=P) o1 o2 o3 o4 w;have k2:=λ W=>dG TA W;have k3:=λ W=>aE hu W;cases e
   ·simp only at o5 ⊢;simp[execOp,j_,Instr.sliceAt,Instr.slice,hx,k3,sizeOf,k2,abp,k1,o5,r8 Vu]
   ·simp only at o5 ⊢;subst o5;simp[execOp,j_,Instr.sliceAt,Instr.slice,hx,k3,sizeOf,k2,abp,k1]
 ·-- makeSlice
  rename_i t x' y' j_;split at h
  case h_2=>exact g _ h
  case h_3=>exact g' h
  rename_i l c hs Xe;split at h
  case h_2=>cases h
  rename_i elem a b hu hx hy;split at h
  case h_2=>cases h
  rename_i inf TA;split at h
  case h_2=>cases h
  rename_i z hz Wu;cases h
  replace hn:=hn Wu
  obtain⟨o1,o2,o3,o4,o5,o6⟩:=iD _ (aaA);subst o1;subst o2;have hl:i64.wrap (l:Int)=l:=by rw[IntKind.wrap_i64];omega
  have hc:i64.wrap (c:Int)=c:=by rw[IntKind.wrap_i64];omega
  have G_:=hR.cons (.rows inf.size c (λ _ k=>z.cells.getD k default) elem (0,0)) (o:=.cells ⟨bC inf.size (λ _ k=>z.cells.getD k default) c⟩ elem (0,0)) rfl;rw[<- hn] at G_;refine⟨_,?_,G_,⟨rfl,rfl,rfl,by simp,λ k hk=>by omega⟩,λ _=>by simp;omega,λ e=>by rw[Wu] at e;cases e⟩;have ad1:¬ ((281474976710656:Int)<(inf.bytes:Int)*(c:Int)):=by
   have:((inf.bytes*c:Nat):Int)=(inf.bytes:Int)*(c:Int):=by simp
   rw[<- this];omega
  have DO:¬ (roomBytes<c*inf.bytes):=by unfold roomBytes;rw[Nat.mul_comm];omega
  have hlc:¬ ((c:Int)<l):=by omega
  have UR:¬ ((l:Int)<0):=by omega
  have hc0:¬ ((c:Int)<0):=by omega
  have k2:=λ W=>dG TA W;have k3:=λ W=>aE hu W
  by_cases h0:c*inf.size=0
  ·have he:∀g,bC inf.size g c=[]:=λ g=>by
    apply abb;rw[cZ];exact h0
   have hr0:∀f:Nat -> Value,Array.map f (Array.range 0)=⟨[]⟩:=λ f=>by simp
   simp[execOp,j_,Instr.makeSlice,hx,hy,k3,sizeOf,k2,zeroValue,hz,abp,asInt,asIntOf,hl,hc,ad1,DO,hlc,UR,hc0,h0,askRoom,newRow,newObj,he,hr0,Sem.run,hn]
  ·have hzf:=xE z.cells c;rw[o5] at hzf;simp[execOp,j_,Instr.makeSlice,hx,hy,k3,sizeOf,k2,zeroValue,hz,abp,asInt,asIntOf,hl,hc,ad1,DO,hlc,UR,hc0,h0,askRoom,newRow,newObj,Sem.run,hn,o5,hzf]
 ·-- pick
  rename_i x' a' b' j_;split at h
  case h_2=>exact g _ h
  case h_3=>exact g' h
  split at h
  case h_2=>cases h
  rename_i t ht;cases h;have o1:=iD _ (aaA);refine⟨w,?_,hR,Below.refl _ _,hn,λ _=>rfl⟩;subst o1;cases t <;> simp[execOp,j_,ht,asBool]
 ·-- lookup
  rename_i t x' ix' ok j_;split at h
  case h_3=>exact g _ h
  case h_4=>exact g' h
  all_goals
   split at h
   case h_2=>cases h
   rename_i kt et b k b' O hu hx hi hp;split at h
   case h_2=>cases h
   rename_i z hk hz;cases h;obtain⟨o1,o2⟩:=iD _ (aaA);have e1:b=b':=heq _ (aaA);subst o1;subst e1;subst o2;rw[Option.bind_eq_some_iff] at hz;obtain⟨inf,TA,hz⟩:=hz;refine⟨w,?_,hR,Below.refl _ _,hn,λ _=>rfl⟩;have hb:w.heap[b]?=some (Gx _):=hR.holds (b,.obj (Gx _)) (by first|exact aav _ (List.mem_of_getElem? hp)|exact aau _ (hr _ (List.mem_of_getElem? hp)));have:=AA (P:=P) (w:=w) (k:=k) ok hu hk TA hz hb;simp only[execOp,j_,hx,hi,abp,this,Result.andThen];rfl
 ·exact g' h
end Go.Proofs.YtghjbimijeinfaaGreatDoor
