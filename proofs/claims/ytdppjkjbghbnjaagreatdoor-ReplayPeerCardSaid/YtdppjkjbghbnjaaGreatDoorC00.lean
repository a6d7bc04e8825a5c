import Derived.WalkKit
import Derived.OrdersHeld
import Derived.Deep.RegionHeld3
import Derived.KernelRfl
import Derived.Laws.StructEq
import Derived.TacticsIn
import Derived.RangeFuncIn
import Derived.OrdersIn
set_option maxHeartbeats 4000000
set_option maxRecDepth 100000
set_option linter.all false
namespace Go.Proofs.YtdppjkjbghbnjaaGreatDoor
open IntKind
open Go.RowKit
def aay:=@List.mem_append_right
def aaA:=@List.mem_append_left
def aaB:=@List.mem_cons_self
def aaE:=@List.mem_cons_of_mem
def aaH:=@List.append_assoc
def aaI:=@List.getD_eq_getElem?_getD
def aaJ:=@Nat.le_of_ble_eq_true
def aaK:=@Nat.le_refl
def aaL:=@Nat.zero_le
def aaP:=@List.length_append
def aaQ:=@List.length_take
def aaR:=@List.length_drop
def aaS:=@List.length_cons
def aaT:=@List.getElem?_eq_getElem
def aaU:=@List.getElem?_append_left
def aaV:=@List.getElem?_append_right
def aaW:=@List.perm_append_comm
def aaX:=@List.Perm.append_right
def aaY:=@List.eq_nil_of_length_eq_zero
def aaZ:=@Nat.lt_or_ge
def aa0:=@Bool.and_eq_true
def aa1:=@Nat.eq_of_beq_eq_true
def aa2:=@List.flatten_cons
def aa3:=@Result.andThen_ok
def aa4:=@Sem.run_bind
def aa5:=@of_decide_eq_true
def aa6:=@List.getElem?_drop
def aa7:=@List.getElem?_take
def aa8:=@List.take_append_drop
def aa9:=@decide_eq_false
def aba:=@decide_eq_true
inductive Blk where
 | lit (cs:List Value) (ty:TypeId) (fz:Nat × Nat)
 | rows (w n:Nat) (g:Nat -> Nat -> Value) (ty:TypeId) (fz:Nat × Nat)
 | obj (o:Obj)
def bg(w:Nat)(g:Nat -> Nat -> Value):Nat -> List Value
 | 0=>[]
 | n+1=>bg w g n++(List.range w).map (g n)
def Blk.den:Blk -> Obj
 | .lit cs ty fz=>.cells ⟨cs⟩ ty fz
 | .rows w n g ty fz=>.cells ⟨bg w g n⟩ ty fz
 | .obj o=>o
theorem cy(w:Nat)(g:Nat -> Nat -> Value)(n:Nat):(bg w g n).length=n*w:=by
 induction n with
 | zero=>simp[bg]
 | succ n ih=>simp[bg,ih,Nat.succ_mul]
theorem mO{w:Nat}{g:Nat -> Nat -> Value}{n i k:Nat}(hi:i<n)(hk:k<w):(bg w g n)[i*w+k]?=some (g i k):=by
 induction n with
 | zero=>omega
 | succ n ih =>
  rw[bg];rcases aaZ i n with h|h
  ·have h1:i*w+k<n*w:=by
    have:(i+1)*w <= n*w:=Nat.mul_le_mul_right _ h;rw[Nat.succ_mul] at this;omega
   rw[aaU (by rw[cy];exact h1),ih h]
  ·obtain rfl:i=n:=by omega
   rw[aaV (by rw[cy];omega),cy];rw[Nat.add_sub_cancel_left];simp[hk]
def cT(g:Nat -> Nat -> Value)(i k:Nat)(v:Value):Nat -> Nat -> Value:=λ i' k'=>if i'=i /\ k'=k then v else g i' k'
theorem uG{w:Nat}{g g':Nat -> Nat -> Value}{n:Nat}(h:∀i k,i<n -> k<w -> g i k=g' i k):bg w g n=bg w g' n:=by
 induction n with
 | zero=>rfl
 | succ n ih =>
  rw[bg,bg,ih (λ i k hi hk=>h i k (by omega) hk)];congr 1;exact List.map_congr_left λ k hk=>h n k (by omega) (List.mem_range.1 hk)
theorem iK{w:Nat}{g:Nat -> Nat -> Value}{n:Nat}{l:List Value}(hl:l.length=n*w)(h:∀i k,i<n -> k<w -> l[i*w+k]?=some (g i k)):bg w g n=l:=by
 apply List.ext_getElem?;intro j;rcases aaZ j (n*w) with hj|hj
 ·have hw:0<w:=by
   rcases Nat.eq_zero_or_pos w with h0|h0
   ·subst h0;simp at hj
   ·exact h0
  have h1:j / w*w+j % w=j:=by rw[Nat.mul_comm];exact Nat.div_add_mod j w
  have hi:j / w<n:=Nat.div_lt_of_lt_mul (by rw[Nat.mul_comm];exact hj);have hk:j % w<w:=Nat.mod_lt _ hw;have h2:=h _ _ hi hk;rw[h1] at h2;rw[h2];have:=mO (g:=g) hi hk;rw[h1] at this;exact this
 ·rw[List.getElem?_eq_none (by rw[cy];exact hj),List.getElem?_eq_none (by omega)]
theorem zu{w:Nat}{g:Nat -> Nat -> Value}{n i k:Nat}(hi:i<n)(hk:k<w)(v:Value):(bg w g n).set (i*w+k) v=bg w (cT g i k v) n:=by
 symm
 refine iK (by rw[List.length_set,cy]) ?_;intro i' k' hi' VJ;rw[List.getElem?_set,cy]
 by_cases e:i*w+k=i'*w+k'
 ·have e1:i=i':=by
   rcases Nat.lt_trichotomy i i' with h|h|h
   ·have:(i+1)*w <= i'*w:=Nat.mul_le_mul_right _ h;rw[Nat.succ_mul] at this;omega
   ·exact h
   ·have:(i'+1)*w <= i*w:=Nat.mul_le_mul_right _ h;rw[Nat.succ_mul] at this;omega
  subst e1;have e2:k=k':=by omega
  subst e2;have h1:i*w+k<n*w:=by
   have:(i+1)*w <= n*w:=Nat.mul_le_mul_right _ hi;rw[Nat.succ_mul] at this;omega
  simp[h1,cT]
 ·rw[if_neg e,mO hi' VJ];unfold cT;rw[if_neg];rintro⟨rfl,rfl⟩;exact e rfl
abbrev HL:=List (Nat × Blk)
def Pd(w:World)(H:HL):Prop:=∀x∈H,w.heap[x.1]?=some x.2.den
structure Rel(H:HL)(w:World):Prop where
 holds:Pd w H
 nodup:(H.map (·.1)).Nodup
theorem cF{w:World}{k:Nat}{o:Obj}(h:w.heap[k]?=some o):k<w.heap.size:=(Array.getElem?_eq_some_iff.1 h).1
theorem Rel.lt{H:HL}{w:World}(h:Rel H w){x:Nat × Blk}(hx:x∈H):x.1<w.heap.size:=cF (h.holds x hx)
theorem Rel.drop{H X:HL}{w:World}(h:Rel (X++H) w):Rel H w :=
 ⟨λ x hx=>h.holds x (aay _ hx),by have:=h.nodup;rw[List.map_append] at this;exact(List.nodup_append.1 this).2.1⟩
theorem Rel.perm{H H':HL}{w:World}(h:Rel H w)(hp:H'.Perm H):Rel H' w :=
 ⟨λ x hx=>h.holds x (hp.mem_iff.1 hx),(hp.map _).nodup_iff.2 h.nodup⟩
theorem Rel.sub{H H':HL}{w:World}(h:Rel H w)(hp:H'.Sublist H):Rel H' w :=
 ⟨λ x hx=>h.holds x (hp.subset hx),(hp.map _).nodup h.nodup⟩
theorem Rel.cons{H:HL}{w:World}{o:Obj}(b:Blk)(hb:b.den=o)(h:Rel H w):Rel ((w.heap.size,b)::H) { w with heap:=w.heap.push o }:=by
 subst hb;constructor
 ·intro x hx;show (w.heap.push b.den)[x.1]?=_;rcases List.mem_cons.1 hx with rfl|hx
  ·simp
  ·rw[Array.getElem?_push,if_neg (by have:=h.lt hx;omega)];exact h.holds x hx
 ·simp only[List.map_cons,List.nodup_cons];refine⟨?_,h.nodup⟩;intro hm;obtain⟨x,hx,he⟩:=List.mem_map.1 hm;have:=h.lt hx;omega
theorem Rel.world{H:HL}{w w':World}(h:Rel H w)(e:w'.heap=w.heap):Rel H w':=⟨λ x hx=>by rw[e];exact h.holds x hx,h.nodup⟩
def bm{α:Type}:List α -> Nat -> α -> List α
 | [],_,_=>[]
 | _::l,0,x=>x::l
 | y::l,n+1,x=>y::bm l n x
theorem iL{α:Type}(l:List α)(n:Nat)(x:α):bm l n x=l.set n x:=by
 induction l generalizing n with
 | nil=>rfl
 | cons y l ih=>cases n with
  | zero=>rfl
  | succ n=>rw[bm,ih];rfl
theorem Rel.upd{H F:HL}{w w':World}{p:Nat}{b:Nat}{bl bl':Blk}(h:Rel (H++F) w)(hp:H[p]?=some (b,bl))(hd:w'.heap[b]?=some bl'.den)(hs:∀k,k≠b -> w'.heap[k]?=w.heap[k]?):Rel (bm H p (b,bl')++F) w':=by
 have iF:p<H.length:=(List.getElem?_eq_some_iff.1 hp).1;have hHp:H[p]=(b,bl):=(List.getElem?_eq_some_iff.1 hp).2;rw[iL];have afv:((H.set p (b,bl')++F).map (·.1))=(H++F).map (·.1):=by
  rw[List.map_append,List.map_append,List.map_set];congr 1;apply List.ext_getElem?;intro j;rw[List.getElem?_set]
  by_cases hj:p=j
  ·subst hj;simp[iF,hHp]
  ·rw[if_neg hj]
 refine⟨?_,by rw[afv];exact h.nodup⟩;intro x hx;obtain⟨j,hj⟩:=List.getElem?_of_mem hx
 by_cases hjp:j=p
 ·subst hjp;rw[aaU (by simpa using iF),List.getElem?_set,if_pos rfl,if_pos iF] at hj;obtain rfl:(b,bl')=x:=by simpa using hj
  exact hd
 ·have hj':(H++F)[j]?=some x:=by
   rcases aaZ j H.length with hl|hl
   ·rw[aaU (by simpa using hl),List.getElem?_set,if_neg (λ e=>hjp e.symm)] at hj;rw[aaU hl];exact hj
   ·rw[aaV (by simpa using hl),List.length_set] at hj;rw[aaV hl];exact hj
  have AS:x.1≠b:=by
   intro e;have UC:=h.nodup;rw[List.nodup_iff_pairwise_ne,List.pairwise_iff_getElem] at UC;have U7:j<(H++F).length:=(List.getElem?_eq_some_iff.1 hj').1;have hpl:(H++F)[p]?=some (b,bl):=by rw[aaU iF];exact hp
   have afg:p<(H++F).length:=(List.getElem?_eq_some_iff.1 hpl).1;have e1:((H++F).map (·.1))[j]'(by rw[List.length_map];exact U7)=x.1:=by rw[List.getElem_map,(List.getElem?_eq_some_iff.1 hj').2]
   have e2:((H++F).map (·.1))[p]'(by rw[List.length_map];exact afg)=b:=by rw[List.getElem_map,(List.getElem?_eq_some_iff.1 hpl).2]
   rcases aaZ j p with XV|UE
   ·exact UC j p _ _ XV (by rw[e1,e2,e])
   ·exact UC p j _ _ (by omega) (by rw[e1,e2,e])
  rw[hs _ AS];exact h.holds x (List.mem_of_getElem? hj')
theorem Rel.store{H F:HL}{w:World}{p:Nat}{b:Nat}{bl bl':Blk}{a:Addr}{v:Value}(h:Rel (H++F) w)(hp:H[p]?=some (b,bl))(ha:a.block=b)
  (hd:∀W:World,W.heap[b]?=some bl.den -> (W.setCell a v).heap[b]?=some bl'.den):Rel (bm H p (b,bl')++F) (w.setCell a v) :=
 h.upd hp (hd w (h.holds (b,bl) (aaA _ (List.mem_of_getElem? hp)))) (λ k hk=>Below.heap_setCell _ _ _ _ (by rw[ha];exact hk))
inductive Hint where
 | own (p:Nat)
 | row (p i k:Nat)
 | ro (p:Nat)
 | rorow (p i k:Nat)
 | ix (j:Nat)
 | nw
 | sl (l h:Nat) (e:Bool)
 | mk (l c:Nat)
 | dv
 | sh (n:Nat)
 | gd (b:Bool)
 | sq
 | gen
 | mp (p:Nat) (kv:List (ByteArray × Value)) (v:Value)
 | mq (p:Nat) (kv:List (ByteArray × Value)) (v:Value)
 | sl0 (h:Nat)
structure SS where
 h:HL
 r:HL
 hints:List Hint
 cnt:Nat
 eq:List (Nat × Nat)
 ob:List Prop
 wr:Bool
def ci(P:Program)(n0:Nat){α:Type}:Sem α -> SS -> Option (α × SS)
 | .pure a,s=>some (a,s)
 | .load _ a k,s=>match s.hints with
   | .own p::hs=>match s.h[p]? with
    | some (b,.lit cs _ _)=>match a.spot,cs[a.off]? with
     | none,some v=>ci P n0 (k v) { s with hints:=hs,eq:=(a.block,b)::s.eq }
     | _,_=>none
    | _=>none
   | .row p i j::hs=>match s.h[p]? with
    | some (b,.rows w n g _ _)=>match a.spot,decide (j<w) with
     | none,true=>ci P n0 (k (g i j)) { s with hints:=hs,eq:=(a.block,b)::s.eq,ob:=(a.off=i*w+j /\ i<n)::s.ob }
     | _,_=>none
    | _=>none
   | .ro p::hs=>match s.r[p]? with
    | some (b,.lit cs _ _)=>match a.spot,cs[a.off]? with
     | none,some v=>ci P n0 (k v) { s with hints:=hs,eq:=(a.block,b)::s.eq }
     | _,_=>none
    | _=>none
   | .rorow p i j::hs=>match s.r[p]? with
    | some (b,.rows w n g _ _)=>match a.spot,decide (j<w) with
     | none,true=>ci P n0 (k (g i j)) { s with hints:=hs,eq:=(a.block,b)::s.eq,ob:=(a.off=i*w+j /\ i<n)::s.ob }
     | _,_=>none
    | _=>none
   | _=>none
 | .store _ a v k,s=>match v with
   | .agg _=>none
   | .tuple _=>none
   | v=>match s.hints with
    | .own p::hs=>match s.h[p]? with
     | some (b,.lit cs t fz)=>match a.spot,decide (a.off<cs.length),decide (fz.2=0) with
      | none,true,true=>match s.wr with
       | false=>none
       | true=>ci P n0 k { s with h:=bm s.h p (b,.lit (bm cs a.off v) t fz),hints:=hs,eq:=(a.block,b)::s.eq }
      | _,_,_=>none
     | _=>none
    | .row p i j::hs=>match s.h[p]? with
     | some (b,.rows w n g t fz)=>match a.spot,decide (j<w),decide (fz.2=0) with
      | none,true,true=>match s.wr with
       | false=>none
       | true=>ci P n0 k { s with h:=bm s.h p (b,.rows w n (cT g i j v) t fz),hints:=hs,eq:=(a.block,b)::s.eq,ob:=(a.off=i*w+j /\ i<n)::s.ob }
      | _,_,_=>none
     | _=>none
    | _=>none
 | .new o k,s=>match s.wr with
  | false=>none
  | true=>match o with
   | .cells c ty fz=>ci P n0 (k (n0+s.cnt)) { s with h:=(n0+s.cnt,.lit c.toList ty fz)::s.h,cnt:=s.cnt+1 }
   | o=>ci P n0 (k (n0+s.cnt)) { s with h:=(n0+s.cnt,.obj o)::s.h,cnt:=s.cnt+1 }
 | .program k,s=>ci P n0 (k P) s
 | .mark _ k,s=>ci P n0 k s
 | .getObj r k,s=>match s.hints with
   | .own p::hs=>match s.h[p]? with
    | some (b,.obj o)=>match o with
     | .cells _ _ _=>none
     | o=>ci P n0 (k o) { s with hints:=hs,eq:=(r,b)::s.eq }
    | _=>none
   | _=>none
 | .setObj r o k,s=>match s.hints with
   | .own p::hs=>match s.h[p]?,s.wr with
    | some (b,.obj o'),true=>match o' with
     | .cells _ _ _=>none
     | _=>ci P n0 k { s with h:=bm s.h p (b,.obj o),hints:=hs,eq:=(r,b)::s.eq }
    | _,_=>none
   | _=>none
 | _,_=>none
theorem pD{W:World}{a:Addr}{b:Nat}{cs:List Value}{ty:TypeId}{fz:Nat × Nat}{v:Value}(ha:a.block=b)(hs:a.spot=none)(h:W.heap[b]?=some (Blk.lit cs ty fz).den) :
  (W.setCell a v).heap[b]?=some (Blk.lit (bm cs a.off v) ty fz).den:=by
 subst ha;simp only[World.setCell,Array.getElem?_modify,if_true,h,Option.map_some,Blk.den,hs,Option.isSome_none,Bool.false_eq_true,if_false,iL];simp
theorem uH{W:World}{a:Addr}{b w n i k:Nat}{g:Nat -> Nat -> Value}{ty:TypeId}{fz:Nat × Nat}{v:Value}(ha:a.block=b)(hs:a.spot=none)(ho:a.off=i*w+k)(hi:i<n)(hk:k<w)
  (h:W.heap[b]?=some (Blk.rows w n g ty fz).den):(W.setCell a v).heap[b]?=some (Blk.rows w n (cT g i k v) ty fz).den:=by
 subst ha;simp only[World.setCell,Array.getElem?_modify,if_true,h,Option.map_some,Blk.den,hs,Option.isSome_none,Bool.false_eq_true,if_false,<- zu hi hk,ho];simp
theorem dF{P:Program}{n0:Nat}{α:Type}(s:Sem α):∀ (ss rW:SS) (x:α),ci P n0 s ss=some (x,rW) -> (∀p∈ss.eq,p∈rW.eq) /\ (∀p∈ss.ob,p∈rW.ob) /\ rW.r=ss.r /\ rW.wr=ss.wr:=by
 induction s with
 | pure a=>intro ss rW x h;rw[ci] at h;cases h;exact⟨λ _ h=>h,λ _ h=>h,rfl,rfl⟩
 | load m a k ih =>
  intro ss rW x h;rw[ci] at h;split at h
  case h_5=>cases h
  all_goals
   split at h
   case h_2=>cases h
   split at h
   case h_2=>cases h
   obtain⟨h1,h2,h3⟩:=ih _ _ _ _ h;exact⟨λ p hp=>h1 p (aaE _ hp),λ p hp=>h2 p (by first|exact hp|exact aaE _ hp),h3⟩
 | store m a v k ih =>
  intro ss rW x h;rw[ci.eq_def] at h;dsimp only at h;split at h
  ·cases h
  ·cases h
  ·split at h
   case h_3=>cases h
   all_goals
    split at h
    case h_2=>cases h
    split at h
    case h_2=>cases h
    split at h
    ·cases h
    obtain⟨h1,h2,h3⟩:=ih _ _ _ h;exact⟨λ p hp=>h1 p (aaE _ hp),λ p hp=>h2 p (by first|exact hp|exact aaE _ hp),h3⟩
 | new o k ih =>
  intro ss rW x h;rw[ci.eq_def] at h;dsimp only at h;split at h
  ·cases h
  split at h <;> (have h1:=ih _ _ _ _ h;exact h1)
 | program k ih=>intro ss rW x h;rw[ci] at h;exact ih _ _ _ _ h
 | mark m k ih=>intro ss rW x h;rw[ci] at h;exact ih _ _ _ h
 | getObj r k ih =>
  intro ss rW x h;rw[ci.eq_def] at h;dsimp only at h;split at h
  case h_2=>cases h
  split at h
  case h_2=>cases h
  split at h
  ·cases h
  obtain⟨h1,h2,h3⟩:=ih _ _ _ _ h;exact⟨λ p hp=>h1 p (aaE _ hp),h2,h3⟩
 | setObj r o k ih =>
  intro ss rW x h;rw[ci.eq_def] at h;dsimp only at h;split at h
  case h_2=>cases h
  split at h
  case h_2=>cases h
  split at h
  ·cases h
  obtain⟨h1,h2,h3⟩:=ih _ _ _ h;exact⟨λ p hp=>h1 p (aaE _ hp),h2,h3⟩
 | _=>intro ss rW x h;simp[ci] at h
theorem BG{P:Program}{n0:Nat}{α:Type}(s:Sem α):∀ (ss rW:SS) (x:α),ci P n0 s ss=some (x,rW) -> ss.wr=false -> rW.h=ss.h:=by
 induction s with
 | pure a=>intro ss rW x h _;rw[ci] at h;cases h;rfl
 | load m a k ih =>
  intro ss rW x h hw;rw[ci] at h;split at h
  case h_5=>cases h
  all_goals
   split at h
   case h_2=>cases h
   split at h
   case h_2=>cases h
   exact(ih _ _ _ _ h hw :)
 | store m a v k ih =>
  intro ss rW x h hw;rw[ci.eq_def] at h;dsimp only at h;split at h
  ·cases h
  ·cases h
  ·split at h
   case h_3=>cases h
   all_goals
    split at h
    case h_2=>cases h
    split at h
    case h_2=>cases h
    split at h
    ·cases h
    rename_i e;rw[hw] at e;cases e
 | new o k ih =>
  intro ss rW x h hw;rw[ci.eq_def] at h;dsimp only at h;split at h
  ·cases h
  rename_i e;rw[hw] at e;cases e
 | program k ih=>intro ss rW x h hw;rw[ci] at h;exact ih _ _ _ _ h hw
 | mark m k ih=>intro ss rW x h hw;rw[ci] at h;exact ih _ _ _ h hw
 | getObj r k ih =>
  intro ss rW x h hw;rw[ci.eq_def] at h;dsimp only at h;split at h
  case h_2=>cases h
  split at h
  case h_2=>cases h
  split at h
  ·cases h
  exact(ih _ _ _ _ h hw :)
 | setObj r o k ih =>
  intro ss rW x h hw;rw[ci.eq_def] at h;dsimp only at h;split at h
  case h_2=>cases h
  split at h
  case h_2=>cases h
  rename_i e;rw[hw] at e;cases e
 | _=>intro ss rW x h;simp[ci] at h
theorem nB{w:World}{a:Addr}{b:Nat}{cs:List Value}{ty:TypeId}{fz:Nat × Nat}{v:Value}(h:w.heap[b]?=some (Blk.lit cs ty fz).den)(ha:a.block=b)(hs:a.spot=none)(hv:cs[a.off]?=some v):w.cell? a=some v:=by
 subst ha;simp[World.cell?,h,Blk.den,hs,hv]
theorem jP{W:World}{a:Addr}{b w n i k:Nat}{g:Nat -> Nat -> Value}{ty:TypeId}{fz:Nat × Nat}(h:W.heap[b]?=some (Blk.rows w n g ty fz).den)(ha:a.block=b)(hs:a.spot=none)(ho:a.off=i*w+k)(hi:i<n)(hk:k<w):W.cell? a=some (g i k):=by
 subst ha;simp[World.cell?,h,Blk.den,hs,ho,mO hi hk]
theorem oE{w:World}{a:Addr}{b:Nat}{bl:Blk}(h:w.heap[b]?=some bl.den)(ha:a.block=b)(hz:match bl with | .lit _ _ fz=>fz.2=0 | .rows _ _ _ _ fz=>fz.2=0 | .obj _=>False):w.frozen? a=false:=by
 subst ha;cases bl with
 | lit cs ty fz=>obtain⟨lo,hi⟩:=fz;simp only at hz;subst hz;simp[World.frozen?,h,Blk.den]
 | rows w n g ty fz=>obtain⟨lo,hi⟩:=fz;simp only at hz;subst hz;simp[World.frozen?,h,Blk.den]
 | obj o=>exact hz.elim
theorem sX{P:Program}{α:Type}{m:Mode}{a:Addr}{v u:Value}{k:Sem α}{w:World}(h1:∀cs,v ≠ .agg cs)(h2:∀cs,v ≠ .tuple cs)(hc:w.cell? a=some u)(hf:w.frozen? a=false):(Sem.store m a v k).run P w=k.run P (w.setCell a v):=by
 rw[Sem.run.eq_def];cases v <;> first|exact absurd rfl (h1 _)|exact absurd rfl (h2 _)|simp[hc,hf]
theorem mP{P:Program}{n0:Nat}{α:Type}{F:HL}(s:Sem α):∀ (ss rW:SS) (x:α) (w:World),ci P n0 s ss=some (x,rW) ->
  (∀p∈rW.eq,p.1=p.2) -> (∀p∈rW.ob,p) -> Rel (ss.h++F) w -> (∀y∈ss.r,y∈F) -> (ss.wr=true -> n0+ss.cnt=w.heap.size) ->
  ∃w',s.run P w=.ok x w' /\ Rel (rW.h++F) w' /\ Below 0 w w' /\ (ss.wr=true -> n0+rW.cnt=w'.heap.size) /\ (ss.wr=false -> w'=w):=by
 induction s with
 | pure a=>intro ss rW x w h _ _ hR _ hn;rw[ci] at h;cases h;exact⟨w,rfl,hR,Below.refl _ _,hn,λ _=>rfl⟩
 | load m a k ih =>
  intro ss rW x w h heq iN hR hr hn;rw[ci] at h;have Vj:∀ (p b:Nat) (bl:Blk),ss.h[p]?=some (b,bl) -> w.heap[b]?=some bl.den:=λ p b bl hp=>hR.holds (b,bl) (aaA _ (List.mem_of_getElem? hp));have SI:∀ (p b:Nat) (bl:Blk),ss.r[p]?=some (b,bl) -> w.heap[b]?=some bl.den:=λ p b bl hp=>hR.holds (b,bl) (aay _ (hr _ (List.mem_of_getElem? hp)));split at h
  case h_5=>cases h
  ·split at h
   case h_2=>cases h
   rename_i hp;split at h
   case h_2=>cases h
   obtain⟨k1,k2,k3⟩:=dF _ _ _ _ h;rename_i v hs hv;have hc:=nB (Vj _ _ _ hp) (heq _ (k1 _ (aaB))) hs hv;obtain⟨w',h1,h2,h3,h4,h5⟩:=ih _ _ _ _ w h heq iN hR hr hn;exact⟨w',by rw[Sem.run,hc];exact h1,h2,h3,h4,h5⟩
  ·split at h
   case h_2=>cases h
   rename_i hp;split at h
   case h_2=>cases h
   obtain⟨k1,k2,k3⟩:=dF _ _ _ _ h;rename_i hs hv;obtain⟨o1,o2⟩:=iN _ (k2 _ (aaB));have hc:=jP (Vj _ _ _ hp) (heq _ (k1 _ (aaB))) hs o1 o2 (by simpa using hv);obtain⟨w',h1,h2,h3,h4,h5⟩:=ih _ _ _ _ w h heq iN hR hr hn;exact⟨w',by rw[Sem.run,hc];exact h1,h2,h3,h4,h5⟩
  ·split at h
   case h_2=>cases h
   rename_i hp;split at h
   case h_2=>cases h
   obtain⟨k1,k2,k3⟩:=dF _ _ _ _ h;rename_i v hs hv;have hc:=nB (SI _ _ _ hp) (heq _ (k1 _ (aaB))) hs hv;obtain⟨w',h1,h2,h3,h4,h5⟩:=ih _ _ _ _ w h heq iN hR hr hn;exact⟨w',by rw[Sem.run,hc];exact h1,h2,h3,h4,h5⟩
  ·split at h
   case h_2=>cases h
   rename_i hp;split at h
   case h_2=>cases h
   obtain⟨k1,k2,k3⟩:=dF _ _ _ _ h;rename_i hs hv;obtain⟨o1,o2⟩:=iN _ (k2 _ (aaB));have hc:=jP (SI _ _ _ hp) (heq _ (k1 _ (aaB))) hs o1 o2 (by simpa using hv);obtain⟨w',h1,h2,h3,h4,h5⟩:=ih _ _ _ _ w h heq iN hR hr hn;exact⟨w',by rw[Sem.run,hc];exact h1,h2,h3,h4,h5⟩
 | store m a v k ih =>
  intro ss rW x w h heq iN hR hr hn;rw[ci.eq_def] at h;dsimp only at h;split at h
  ·cases h
  ·cases h
  ·rename_i hv1 Zm;have Vj:∀ (p b:Nat) (bl:Blk),ss.h[p]?=some (b,bl) -> w.heap[b]?=some bl.den:=λ p b bl hp=>hR.holds (b,bl) (aaA _ (List.mem_of_getElem? hp));split at h
   case h_3=>cases h
   ·split at h
    case h_2=>cases h
    rename_i hp;split at h
    case h_2=>cases h
    rename_i hs iF hz;split at h
    ·cases h
    rename_i Ve;obtain⟨k1,k2,k3⟩:=dF _ _ _ _ h;have ha:=heq _ (k1 _ (aaB));have XV:a.off<_:=aa5 iF;have hc:=nB (Vj _ _ _ hp) ha hs (aaT XV);have hf:=oE (Vj _ _ _ hp) ha (by simpa using hz);have C_:=hR.store (v:=v) hp ha (λ W hW=>pD ha hs hW);obtain⟨w',h1,h2,h3,h4,-⟩:=ih _ _ _ (w.setCell a v) h heq iN C_ hr (λ e=>by simpa [World.setCell] using hn e);exact⟨w',by rw[sX (λ cs e=>hv1 cs e) (λ cs e=>Zm cs e) hc hf];exact h1,h2,((Below.refl 0 w).setCell (aaL _) v).trans h3,h4,λ e=>by rw[Ve] at e;cases e⟩
   ·split at h
    case h_2=>cases h
    rename_i hp;split at h
    case h_2=>cases h
    rename_i hs iF hz;split at h
    ·cases h
    rename_i Ve;obtain⟨k1,k2,k3⟩:=dF _ _ _ _ h;have ha:=heq _ (k1 _ (aaB));obtain⟨o1,o2⟩:=iN _ (k2 _ (aaB));have hk:_<_:=aa5 iF;have hc:=jP (Vj _ _ _ hp) ha hs o1 o2 hk;have hf:=oE (Vj _ _ _ hp) ha (by simpa using hz);have C_:=hR.store (v:=v) hp ha (λ W hW=>uH ha hs o1 o2 hk hW);obtain⟨w',h1,h2,h3,h4,-⟩:=ih _ _ _ (w.setCell a v) h heq iN C_ hr (λ e=>by simpa [World.setCell] using hn e);exact⟨w',by rw[sX (λ cs e=>hv1 cs e) (λ cs e=>Zm cs e) hc hf];exact h1,h2,((Below.refl 0 w).setCell (aaL _) v).trans h3,h4,λ e=>by rw[Ve] at e;cases e⟩
 | new o k ih =>
  intro ss rW x w h heq iN hR hr hn;rw[ci.eq_def] at h;dsimp only at h;have hb:∀o':Obj,Below 0 w { w with heap:=w.heap.push o' }:=λ o'=>⟨rfl,rfl,rfl,by simp,λ k hk=>by omega⟩;split at h
  ·cases h
  rename_i Ve
  replace hn:=hn Ve
  split at h
  ·rename_i c ty fz;have C_:=hR.cons (.lit c.toList ty fz) (o:=.cells c ty fz) (by simp[Blk.den]);rw[<- hn] at C_;obtain⟨w',h1,h2,h3,h4,-⟩:=ih _ _ _ _ _ h heq iN C_ hr (λ _=>by simp;omega);refine⟨w',?_,h2,(hb _).trans h3,h4,λ e=>by rw[Ve] at e;cases e⟩;rw[Sem.run,<- hn];exact h1
  ·have C_:=hR.cons (.obj o) (o:=o) rfl;rw[<- hn] at C_;obtain⟨w',h1,h2,h3,h4,-⟩:=ih _ _ _ _ _ h heq iN C_ hr (λ _=>by simp;omega);refine⟨w',?_,h2,(hb _).trans h3,h4,λ e=>by rw[Ve] at e;cases e⟩;rw[Sem.run,<- hn];exact h1
 | program k ih =>
  intro ss rW x w h heq iN hR hr hn;rw[ci] at h;obtain⟨w',h1,h2,h3,h4,h5⟩:=ih _ _ _ _ w h heq iN hR hr hn;exact⟨w',by rw[Sem.run];exact h1,h2,h3,h4,h5⟩
 | mark m k ih =>
  intro ss rW x w h heq iN hR hr hn;rw[ci] at h;obtain⟨w',h1,h2,h3,h4,h5⟩:=ih _ _ _ w h heq iN hR hr hn;exact⟨w',by rw[Sem.run];exact h1,h2,h3,h4,h5⟩
 | getObj r k ih =>
  intro ss rW x w h heq iN hR hr hn;rw[ci.eq_def] at h;dsimp only at h;split at h
  case h_2=>cases h
  split at h
  case h_2=>cases h
  rename_i hp;split at h
  ·cases h
  rename_i o TC;obtain⟨k1,k2,k3⟩:=dF _ _ _ _ h;have ha:=heq _ (k1 _ (aaB));simp only at ha;have hb:=hR.holds _ (aaA _ (List.mem_of_getElem? hp));simp only[Blk.den] at hb;obtain⟨w',h1,h2,h3,h4,h5⟩:=ih _ _ _ _ w h heq iN hR hr hn;refine⟨w',?_,h2,h3,h4,h5⟩;rw[Sem.run.eq_def];simp only[ha,hb];exact h1
 | setObj r o k ih =>
  intro ss rW x w h heq iN hR hr hn;rw[ci.eq_def] at h;dsimp only at h;split at h
  case h_2=>cases h
  split at h
  case h_2=>cases h
  rename_i hp Ve;split at h
  ·cases h
  rename_i o' TC;obtain⟨k1,k2,k3⟩:=dF _ _ _ _ h;have ha:=heq _ (k1 _ (aaB));simp only at ha;have hb:=hR.holds _ (aaA _ (List.mem_of_getElem? hp));simp only[Blk.den] at hb;have iF:=cF hb;have C_:=hR.upd (w':={ w with heap:=w.heap.setIfInBounds r o }) (bl':=.obj o) hp (by
   subst ha;show (w.heap.setIfInBounds r o)[r]?=_;rw[Array.getElem?_setIfInBounds_self_of_lt iF];rfl) (λ k' hk=>by
   subst ha;show (w.heap.setIfInBounds r o)[k']?=_;rw[Array.getElem?_setIfInBounds_ne (λ e=>hk e.symm)])
  have Tv:Below 0 w { w with heap:=w.heap.setIfInBounds r o }:=⟨rfl,rfl,rfl,by simp,λ k hk=>by omega⟩;obtain⟨w',h1,h2,h3,h4,-⟩:=ih _ _ _ { w with heap:=w.heap.setIfInBounds r o } h heq iN C_ hr (λ e=>by simpa using hn e);refine⟨w',?_,h2,Tv.trans h3,h4,λ e=>by rw[Ve] at e;cases e⟩;rw[Sem.run.eq_def];simp only[ha,hb];rw[ha] at h1;exact h1
 | _=>intro ss rW x w h;simp[ci] at h
abbrev FL:=List (Nat × Value)
structure Fm(N:Nat)(D:List Deferred)(L:FL)(a:Act):Prop where
 size:a.tmps.size=N
 defs:a.defers=D
 has:∀t v,L.lookup t=some v -> a.tmps[t]?=some v
def eZ(L:FL):Operand -> Value
 | .tmp t=>(L.lookup t).getD undef
 | .const v=>v
 | .global g=>.pointer (some ⟨g,0,none⟩)
 | .func f=>.func (.func f) #[] #[]
def gh(L:FL):Operand -> Bool
 | .tmp t=>(L.lookup t).isSome
 | _=>true
theorem Fm.eval{N:Nat}{D:List Deferred}{L:FL}{a:Act}(h:Fm N D L a){x:Operand}(hx:gh L x=true):a.eval x=eZ L x:=by
 cases x with
 | tmp t =>
  simp only[gh,Option.isSome_iff_exists] at hx;obtain⟨v,hv⟩:=hx;simp[Act.eval,eZ,hv,h.has t v hv]
 | _=>rfl
def cf:Op -> Option (List Operand)
 | .alloc _=>some []
 | .move x | .assign x | .box _ x | .load _ x | .nilCheck x | .unOp _ _ x | .convert _ _ x | .sliceToArrayPointer _ x | .makeInterface _ x | .fieldAddr _ x _ | .field _ x _ | .typeAssert x _ _ _ | .extract x _ | .range _ x | .next x _=>some [x]
 | .pick c a b=>some [c,a,b]
 | .build _ ps | .buildSlice _ _ ps=>some (ps.toList.map (·.2))
 | .store _ a v | .binOp _ _ a v _ | .makeSlice _ a v | .indexAddr _ a v | .index _ a v | .lookup _ a v _=>some [a,v]
 | .makeFunc _ first captured=>some (first.toList++captured.toList)
 | .makeMap _ r=>some r.toList
 | .slice _ x l h m=>some (x::(l.toList++(h.toList++m.toList)))
 | .mapUpdate _ m k v=>some [m,k,v]
 | .insert _ m k v=>some [m,k,v]
 | .call c=>some ((match c.callee with | .value f=>[f] | .invoke r _=>[r] | .builtin _=>[])++c.args.toList)
 | _=>none
theorem sY{o:Op}{l:List Operand}(h:cf o=some l):(∀x∈o.operands,x∈l) /\ ∀cs b,o ≠ .select cs b:=by
 cases o <;> simp only[cf,Option.some.injEq,reduceCtorEq] at h <;> subst h <;> refine⟨?_,by simp⟩ <;> intro x hx <;> simp[Op.operands,Call.operands] at hx ⊢ <;>
  first
   | done
   | exact hx
   | (rename_i c;obtain⟨callee,args,Ym⟩:=c;cases callee <;> simp_all)
   | skip
def iM(o:Op)(L:FL):Bool:=match cf o with
 | some l=>l.all (gh L)
 | none=>false
theorem Fm.exec{N:Nat}{D:List Deferred}{L:FL}{a:Act}(h:Fm N D L a){o:Oper}(ho:iM o.op L=true):execOp a.eval o=execOp (eZ L) o:=by
 unfold iM at ho;split at ho
 ·rename_i l hl;obtain⟨h1,h2⟩:=sY hl;exact execOp_congr o h2 λ x hx=>h.eval (List.all_eq_true.1 ho x (h1 x hx))
 ·cases ho
def eh(N:Nat)(dst:Option Tmp)(v:Value)(L:FL):Option FL:=match dst with
 | none=>some L
 | some d=>match decide (d<N) with
  | true=>some ((d,v)::L)
  | false=>none
theorem Fm.put{N:Nat}{D:List Deferred}{L L':FL}{a:Act}(h:Fm N D L a){dst:Option Tmp}{v:Value}(hp:eh N dst v L=some L'):Fm N D L' (a.put dst v):=by
 unfold eh at hp;cases dst with
 | none=>cases hp;exact h
 | some d =>
  simp only at hp;split at hp
  ·rename_i hd;cases hp;have UF:d<N:=aa5 hd;refine⟨by simp[Act.put,h.size],h.defs,?_⟩;intro t u ht;simp only[Act.put];rw[List.lookup_cons] at ht
   by_cases e:t=d
   ·subst e;simp at ht;subst ht;rw[Array.getElem?_setIfInBounds_self_of_lt (by rw[h.size];exact UF)]
   ·rw[Array.getElem?_setIfInBounds_ne (λ e'=>e e'.symm)];have:(t == d)=false:=by simpa using e
    rw[this] at ht;exact h.has t u ht
  ·cases hp
def sZ(keys:List Nat)(L:FL):Option FL:=match keys with
 | []=>some []
 | t::ks=>match L.lookup t,sZ ks L with
  | some v,some l=>some ((t,v)::l)
  | _,_=>none
theorem nC{L:FL}:∀ {keys:List Nat} {L':FL},sZ keys L=some L' -> ∀t v,L'.lookup t=some v -> L.lookup t=some v
 | [],L',h,t,v,hl=>by rw[sZ] at h;cases h;cases hl
 | k::ks,L',h,t,v,hl=>by
  rw[sZ] at h;split at h
  ·rename_i u l hu hp;cases h;rw[List.lookup_cons] at hl
   by_cases e:t=k
   ·subst e;simp at hl;subst hl;exact hu
   ·have:(t == k)=false:=by simpa using e
    rw[this] at hl;exact nC hp t v hl
  ·cases h
theorem Fm.pick{N:Nat}{D:List Deferred}{L L':FL}{a:Act}(h:Fm N D L a){keys:List Nat}(hp:sZ keys L=some L'):Fm N D L' a :=
 ⟨h.size,h.defs,λ t v ht=>h.has t v (nC hp t v ht)⟩
def sB(a:Addr)(n:Nat):Addr:=⟨a.block,a.off+n,none⟩
theorem gI{a:Addr}(h:a.spot=none)(n:Nat):a.add n=sB a n:=by
 unfold Addr.add sB;split
 ·subst n;cases a;simp at h;subst h;rfl
 ·rfl
def Dc(ρ:Operand -> Value)(x:Option Operand)(n d:Nat):Prop:=match x with
 | some v=>match ρ v with
  | .int _ z=>z=(n:Int)
  | _=>False
 | none=>n=d
theorem iO{P:Program}{ρ:Operand -> Value}{lo hi:Option Operand}{l h len cap:Nat}(o1:Dc ρ lo l 0)(o2:Dc ρ hi h len)(o3:l <= h)(o4:h <= cap)(W:World) :
  (Instr.sliceBounds true len cap (lo.map ρ) (hi.map ρ) none).run P W=.ok (l,h,cap) W:=by
 have b1:∀ (k:IntKind) (y n:Nat) (c:BoundsCode),n <= y -> (Instr.sliceBound (.int k (n:Int)) y c).run P W=.ok n W:=by
  intro k y n c hny;simp[Instr.sliceBound,asIntOf,hny,go_sem]
 have g:∀ (x:Option Operand) (n d:Nat),Dc ρ x n d -> (x=none /\ n=d) \/ ∃v k,x=some v /\ ρ v=.int k (n:Int):=by
  intro x n d hb;cases x with
  | none=>exact .inl ⟨rfl,hb⟩
  | some v =>
   right;unfold Dc at hb;simp only at hb;cases hv:ρ v <;> rw[hv] at hb <;> simp only at hb
   exact⟨v,_,rfl,by rw[hv,hb]⟩
 unfold Instr.sliceBounds;rcases g _ _ _ o1 with ⟨rfl,rfl⟩|⟨v,k,rfl,hv⟩ <;> rcases g _ _ _ o2 with ⟨rfl,rfl⟩|⟨v',k',rfl,hv'⟩
 ·simp[aa4]
 ·simp[aa4,hv',b1,o4]
 ·simp[aa4,hv,b1,o3]
 ·simp[aa4,hv,hv',b1,o3,o4]
def BH(P:Program)(t:TypeId)(cs:Array Value)(off:Nat):Option Value:=match P.underlying t with
 | some (.struct _)=>match P.info? t with
  | some i=>some (.agg (cs.extract off (off+i.size)))
  | none=>none
 | some (.array _ _)=>match P.info? t with
  | some i=>some (.agg (cs.extract off (off+i.size)))
  | none=>none
 | some _=>cs[off]?
 | none=>none
def Pe(P:Program)(rec:TypeId -> Value -> Value -> Option Bool)(xs ys:Array Value):List Field -> Option Bool
 | []=>some true
 | f :: fs=>match decide (f.name="_") with
  | true=>Pe P rec xs ys fs
  | false=>match BH P f.type xs f.offset,BH P f.type ys f.offset with
   | some a,some b=>match rec f.type a b,Pe P rec xs ys fs with
    | some r,some r'=>some (r && r')
    | _,_=>none
   | _,_=>none
def O6(P:Program):Nat -> TypeId -> Value -> Value -> Option Bool
 | 0,_,_,_=>none
 | d+1,t,x,y=>match P.underlying t,x,y with
  | some (.int _),.int k a,.int k' b=>match decide (k=k') with
   | true=>some (decide (a=b))
   | false=>none
  | some .bool,.bool a,.bool b=>some (a == b)
  | some (.struct fs),.agg xs,.agg ys=>match P.stoodInHeld t with
   | false=>Pe P (O6 P d) xs ys fs.toList
   | true=>none
  | _,_,_=>none
theorem wo{P:Program}{t:TypeId}{cs:Array Value}{off:Nat}{v:Value}(h:BH P t cs off=some v)(w:World):(part t cs off).run P w=.ok v w:=by
 have und:∀d,P.underlying t=some d -> ∀W,(underlying t).run P W=.ok d W:=λ d hd W=>by simp[underlying,program,bind,Sem.bind,Sem.run,hd,pure]
 have inf:∀i,P.info? t=some i -> ∀W,(typeInfo t).run P W=.ok i W:=λ i hd W=>by simp[typeInfo,program,bind,Sem.bind,Sem.run,hd,pure]
 unfold BH at h;split at h
 ·rename_i fs hu;split at h
  ·rename_i i hi;cases h;simp[part,isAgg,aa4,und _ hu,sizeOf,inf _ hi]
  ·cases h
 ·rename_i n e hu;split at h
  ·rename_i i hi;cases h;simp[part,isAgg,aa4,und _ hu,sizeOf,inf _ hi]
  ·cases h
 ·rename_i d h1 h2 hu;have hag:(isAgg t).run P w=.ok false w:=by
   unfold isAgg;rw[aa4,und _ hu];simp only[aa3];cases d <;> first|rfl|exact(h1 _ rfl).elim|exact(h2 _ _ rfl).elim
  simp[part,aa4,hag,h]
 ·cases h
theorem BI{P:Program}:∀ (d:Nat) (t:TypeId) (x y:Value) (b:Bool) (w:World),O6 P d t x y=some b -> (Op.equalIn d t x y).run P w=.ok b w
 | 0,t,x,y,b,w,h=>by simp[O6] at h
 | d+1,t,x,y,b,w,h=>by
  unfold O6 at h;split at h
  case h_1 =>
   rename_i k1 k a k' b' hu;split at h
   ·rename_i hk;cases h;have:k=k':=aa5 hk;subst this;rw[run_equalIn_int w d t k k1 a b' hu];rfl
   ·cases h
  case h_2 =>
   rename_i a b' hu;cases h;exact run_equalIn_bool' w d t a b' hu
  case h_3 =>
   rename_i fs xs ys hu;split at h
   ·rename_i hs;have hf:P.fieldsOf t=fs:=by simp[Program.fieldsOf,hu]
    rw[run_equalIn_agg w d t xs ys (by rw[hf];exact hu) hs,hf];revert h;generalize fs.toList=l;clear hu hf
    induction l generalizing b with
    | nil=>intro h;simp[Pe] at h;subst h;simp[Op.eqFields]
    | cons f fs ih =>
     intro h;rw[Pe] at h;split at h
     ·rename_i hn;have XU:f.name="_":=aa5 hn;rw[Op.eqFields,if_neg (by simp[XU])];exact ih _ h
     ·rename_i hn;have XU:¬ f.name="_":=of_decide_eq_false hn;split at h
      ·rename_i u v hu hv;split at h
       ·rename_i r r' hr Xv;cases h;rw[Op.eqFields,if_pos XU];simp only[aa4,wo hu,wo hv,aa3,BI d _ _ _ _ w hr];cases r
        ·simp
        ·simpa using ih _ Xv
       ·cases h
      ·cases h
   ·cases h
  case h_4=>cases h
def FN(s:ByteArray)(j:Nat):Int:=((s[j]?).getD 0).toNat
theorem nD{P:Program}{α:Type}(k:Program -> Sem α)(w:World):((program >>= k):Sem α).run P w=(k P).run P w:=rfl
theorem cZ{P:Program}{t:TypeId}{i:TypeInfo}(h:P.info? t=some i)(w:World):(typeInfo t).run P w=.ok i w:=by
 simp[typeInfo,program,bind,Sem.bind,Sem.run,h,pure]
theorem aG{P:Program}{t:TypeId}{i:TypeDesc}(h:P.underlying t=some i)(w:World):(underlying t).run P w=.ok i w:=by
 simp[underlying,program,bind,Sem.bind,Sem.run,h,pure]
theorem FO{a b:ByteArray}:(a == b)=true↔a=b:=by
 obtain⟨a⟩:=a;obtain⟨b⟩:=b;show (a == b)=true↔_;simp
theorem Kn(a:ByteArray):(a == a)=true:=FO.2 rfl
def wp:Nat -> List (ByteArray × Value) -> List MapEntry
 | _,[]=>[]
 | i,(k,v)::l=>{ key:=.string k,val:=v,born:=i }::wp (i+1) l
abbrev FP(kv:List (ByteArray × Value)):Obj:=.map ⟨wp 0 kv⟩ kv.length
def uI:List (ByteArray × Value) -> ByteArray -> Option Value
 | [],_=>none
 | (k',v)::l,k=>if (k == k')=true then some v else uI l k
def zw:List (ByteArray × Value) -> ByteArray -> Nat -> Option (Nat × Value)
 | [],_,_=>none
 | (k',v)::l,k,i=>if (k == k')=true then some (i,v) else zw l k (i+1)
theorem s0(k:ByteArray):∀ (kv:List (ByteArray × Value)) (b i:Nat),Instr.findNow .string (.string k) (wp b kv) i=some (zw kv k i)
 | [],_,_=>rfl
 | (k',v)::l,b,i=>by
  rw[wp,Instr.findNow,zw];simp only[Instr.sameNow];cases h:(k == k') with
  | true=>simp
  | false=>simp[s0 k l (b+1) (i+1)]
theorem wq(k:ByteArray):∀ (kv:List (ByteArray × Value)) (i:Nat),(zw kv k i).map (·.2)=uI kv k
 | [],_=>rfl
 | (k',v)::l,i=>by
  rw[zw,uI];split
  ·rfl
  ·exact wq k l (i+1)
theorem Dd{P:Program}{kt:TypeId}(hk:P.underlying kt=some .string)(k:ByteArray)(kv:List (ByteArray × Value))(b:Nat)(w:World):(Instr.findKey kt (.string k) (wp b kv)).run P w=.ok (zw kv k 0) w:=by
 unfold Instr.findKey;rw[aa4,aG hk];simp only[Result.andThen,s0];rfl
theorem zx{P:Program}{kt:TypeId}(hk:P.underlying kt=some .string)(e:Bool)(k:ByteArray)(w:World):(Instr.checkKey e 10000 kt (.string k)).run P w=.ok () w:=by
 rw[show (10000:Nat)=9999+1 from rfl,Instr.checkKey.eq_def];simp only;rw[aa4,aG hk];rfl
theorem cq{P:Program}{α:Type}(a:α)(w:World):((pure a:Sem α)).run P w=.ok a w:=rfl
theorem gq{P:Program}{w:World}{r:Nat}{es:Array MapEntry}{c:Nat}(h:w.heap[r]?=some (.map es c)):(getObj r).run P w=.ok (.map es c) w:=by
 unfold getObj;rw[Sem.run.eq_def];simp only[h];rfl
theorem zy{P:Program}{w:World}{t kt et:TypeId}{b:Nat}{kv:List (ByteArray × Value)}{k:ByteArray}{z:Value}{i:TypeInfo}(ok:Bool)(ht:P.underlying t=some (.map kt et))(hk:P.underlying kt=some .string)(hi:P.info? et=some i)(hz:i.zero=some z)(hb:w.heap[b]?=some (FP kv)) :
  (Instr.lookup t (.map (some b)) (.string k) ok).run P w=.ok (if ok=true then .tuple #[(uI kv k).getD z,.bool (uI kv k).isSome] else (uI kv k).getD z) w:=by
 unfold Instr.lookup;rw[aa4,aG ht];simp only[Result.andThen,aa4,gq hb,cq,zx hk,Dd hk];rw[<- wq k kv 0];cases h:zw kv k 0 with
 | some x =>
  obtain⟨j,v⟩:=x;cases ok <;> rfl
 | none =>
  simp only[zeroValue,aa4,cZ hi,Result.andThen,hz,cq];cases ok <;> rfl
abbrev lkV(kv:List (ByteArray × Value))(k:ByteArray)(ok:Bool)(z:Value):Value:=if ok=true then .tuple #[(uI kv k).getD z,.bool (uI kv k).isSome] else (uI kv k).getD z
theorem FQ(a b:ByteArray):(a.toList == b.toList)=decide (a=b):=by
 rw[ByteArray.toList_eq,ByteArray.toList_eq,Bool.eq_iff_iff,decide_eq_true_iff,beq_iff_eq];constructor
 ·intro h;exact ByteArray.ext (Array.toList_inj.mp h)
 ·rintro rfl;rfl
def ev(P:Program)(n0:Nat)(o:Oper)(ρ:Operand -> Value)(s:SS):Option (Next × SS) :=
 match o.op with
 | .indexAddr t x ix=>match s.hints with
  | .ix j::hs=>match P.underlying t,ρ x,ρ ix with
   | some (.slice elem),.slice (some a) len _,.int _ i=>match a.spot,P.info? elem with
    | none,some inf=>some (.value (.pointer (some (sB a (j*inf.size)))),{ s with hints:=hs,ob:=(i=(j:Int) /\ j<len)::s.ob })
    | _,_=>none
   | some (.array len elem),.pointer (some a),.int _ i=>match a.spot,P.info? elem with
    | none,some inf=>some (.value (.pointer (some (sB a (j*inf.size)))),{ s with hints:=hs,ob:=(i=(j:Int) /\ j<len)::s.ob })
    | _,_=>none
   | _,_,_=>none
  | .gen::hs=>ci P n0 (execOp ρ o) { s with hints:=hs }
  | _=>ci P n0 (execOp ρ o) s
 | .binOp op t x y _=>match s.hints with
  | .nw::hs=>match op,ρ x,ρ y with
   | .add,.int .i64 a,.int .i64 b=>some (.value (.int .i64 (a+b)),{ s with hints:=hs,ob:=(-9223372036854775808 <= a+b /\ a+b <= 9223372036854775807)::s.ob })
   | .sub,.int .i64 a,.int .i64 b=>some (.value (.int .i64 (a-b)),{ s with hints:=hs,ob:=(-9223372036854775808 <= a-b /\ a-b <= 9223372036854775807)::s.ob })
   | .mul,.int .i64 a,.int .i64 b=>some (.value (.int .i64 (a*b)),{ s with hints:=hs,ob:=(-9223372036854775808 <= a*b /\ a*b <= 9223372036854775807)::s.ob })
   | .quo,.int .i64 a,.int .i64 b=>some (.value (.int .i64 (a / b)),{ s with hints:=hs,ob:=(0 <= a /\ 0<b /\ a <= 9223372036854775807)::s.ob })
   | .rem,.int .i64 a,.int .i64 b=>some (.value (.int .i64 (a % b)),{ s with hints:=hs,ob:=(0 <= a /\ 0<b /\ a <= 9223372036854775807)::s.ob })
   | _,_,_=>none
  | .dv::hs=>match op,ρ x,ρ y with
   | .quo,.int .i64 a,.int .i64 b=>some (.value (.int .i64 (i64.wrap (a.tdiv b))),{ s with hints:=hs,ob:=(b≠0)::s.ob })
   | .rem,.int .i64 a,.int .i64 b=>some (.value (.int .i64 (a.tmod b)),{ s with hints:=hs,ob:=(b≠0)::s.ob })
   | .shl,.int k a,.int _ b=>some (.value (.int k (k.wrap (a*2 ^ min b.toNat k.bits))),{ s with hints:=hs,ob:=(0 <= b)::s.ob })
   | .shr,.int k a,.int _ b=>some (.value (.int k (a.fdiv (2 ^ min b.toNat k.bits))),{ s with hints:=hs,ob:=(0 <= b)::s.ob })
   | _,_,_=>none
  | .sq::hs=>match op,ρ x,ρ y with
   | .eql,.agg xs,.agg ys=>match P.eqGuardType P.depth t,O6 P 10000 t (.agg xs) (.agg ys) with
    | false,some b=>some (.value (.bool b),{ s with hints:=hs })
    | _,_=>none
   | .neq,.agg xs,.agg ys=>match P.eqGuardType P.depth t,O6 P 10000 t (.agg xs) (.agg ys) with
    | false,some b=>some (.value (.bool (!b)),{ s with hints:=hs })
    | _,_=>none
   | .eql,.string a,.string b=>some (.value (.bool (decide (a=b))),{ s with hints:=hs })
   | .neq,.string a,.string b=>some (.value (.bool (!decide (a=b))),{ s with hints:=hs })
   | _,_,_=>none
  | .gen::hs=>ci P n0 (execOp ρ o) { s with hints:=hs }
  | _=>ci P n0 (execOp ρ o) s
 | .index t x ix=>match s.hints with
  | .ix j::hs=>match P.underlying t,ρ x,ρ ix with
   | some .string,.string b,.int _ i=>some (.value (.int .u8 (FN b j)),{ s with hints:=hs,ob:=(i=(j:Int) /\ j<b.size)::s.ob })
   | _,_,_=>none
  | .gen::hs=>ci P n0 (execOp ρ o) { s with hints:=hs }
  | _=>ci P n0 (execOp ρ o) s
 | .unOp op t x=>match s.hints with
  | .nw::hs=>match op,ρ x with
   | .neg,.int .i64 a=>some (.value (.int .i64 (-a)),{ s with hints:=hs,ob:=(-9223372036854775807 <= a /\ a <= 9223372036854775808)::s.ob })
   | _,_=>none
  | .gen::hs=>ci P n0 (execOp ρ o) { s with hints:=hs }
  | _=>ci P n0 (execOp ρ o) s
 | .slice t x lo hi mx=>match s.hints with
  | .sl l h e::hs=>match P.underlying t,ρ x,mx with
   | some (.slice elem),.slice a len cap,none=>match a,P.info? elem with
    | none,some inf=>some (.value (.slice none (h-l) (cap-l)),{ s with hints:=hs,ob:=(Dc ρ lo l 0 /\ Dc ρ hi h len /\ l <= h /\ h <= cap)::s.ob })
    | some a,some inf=>match a.spot with
     | none=>some (.value (.slice (some (match e with|true=>a|false=>sB a (l*inf.size))) (h-l) (cap-l)),{ s with hints:=hs,ob:=(Dc ρ lo l 0 /\ Dc ρ hi h len /\ l <= h /\ h <= cap /\ (match e with|true=>cap=l|false=>cap≠l))::s.ob })
     | _=>none
    | _,_=>none
   | _,_,_=>none
  | .gen::hs=>ci P n0 (execOp ρ o) { s with hints:=hs }
  | .sl0 h::hs=>match P.underlying t,ρ x,lo,mx with
   | some (.slice elem),.slice a len cap,none,none=>match P.info? elem with
    | some inf=>some (.value (.slice a h cap),{ s with hints:=hs,ob:=(Dc ρ hi h len /\ h <= cap)::s.ob })
    | none=>none
   | _,_,_,_=>none
  | _=>ci P n0 (execOp ρ o) s
 | .makeSlice t x y=>match s.hints with
  | .mk l c::hs=>match P.underlying t,ρ x,ρ y with
   | some (.slice elem),.int .i64 a,.int .i64 b=>match P.info? elem with
    | some inf=>match inf.zero,s.wr with
     | some z,true=>some (.value (.slice (some ⟨n0+s.cnt,0,none⟩) l c),{ s with h:=(n0+s.cnt,.rows inf.size c (λ _ k=>z.cells.getD k default) elem (0,0))::s.h,cnt:=s.cnt+1,hints:=hs,ob:=(a=(l:Int) /\ b=(c:Int) /\ l <= c /\ inf.bytes*c <= 140737488355328 /\ z.cells.size=inf.size /\ c <= 9223372036854775807)::s.ob })
     | _,_=>none
    | none=>none
   | _,_,_=>none
  | .gen::hs=>ci P n0 (execOp ρ o) { s with hints:=hs }
  | _=>ci P n0 (execOp ρ o) s
 | .pick x a b=>match s.hints with
  | .gd c::hs=>match ρ x with
   | .bool t=>some (.value (match c with|true=>ρ a|false=>ρ b),{ s with hints:=hs,ob:=(t=c)::s.ob })
   | _=>none
  | .gen::hs=>ci P n0 (execOp ρ o) { s with hints:=hs }
  | _=>ci P n0 (execOp ρ o) s
 | .lookup t x ix ok=>match s.hints with
  | .mp p kv v::hs=>match P.underlying t,ρ x,ρ ix,s.h[p]? with
   | some (.map kt et),.map (some b),.string k,some (b',.obj O)=>match P.underlying kt,(P.info? et).bind (·.zero) with
    | some .string,some z=>some (.value v,{ s with hints:=hs,eq:=(b,b')::s.eq,ob:=(O=FP kv /\ lkV kv k ok z=v)::s.ob })
    | _,_=>none
   | _,_,_,_=>none
  | .mq p kv v::hs=>match P.underlying t,ρ x,ρ ix,s.r[p]? with
   | some (.map kt et),.map (some b),.string k,some (b',.obj O)=>match P.underlying kt,(P.info? et).bind (·.zero) with
    | some .string,some z=>some (.value v,{ s with hints:=hs,eq:=(b,b')::s.eq,ob:=(O=FP kv /\ lkV kv k ok z=v)::s.ob })
    | _,_=>none
   | _,_,_,_=>none
  | .gen::hs=>ci P n0 (execOp ρ o) { s with hints:=hs }
  | _=>ci P n0 (execOp ρ o) s
 | _=>ci P n0 (execOp ρ o) s
theorem dG{P:Program}{n0:Nat}{o:Oper}{ρ:Operand -> Value}{ss rW:SS}{x:Next}(h:ev P n0 o ρ ss=some (x,rW)):(∀p∈ss.eq,p∈rW.eq) /\ (∀p∈ss.ob,p∈rW.ob) /\ rW.r=ss.r /\ rW.wr=ss.wr:=by
 unfold ev at h
 repeat' split at h
 all_goals first
  | exact(dF _ _ _ _ h :)
  | (cases h;done)
  | (cases h;exact⟨λ _ h=>h,λ _ h=>aaE _ h,rfl,rfl⟩)
  | (cases h;exact⟨λ _ h=>aaE _ h,λ _ h=>aaE _ h,rfl,rfl⟩)
  | (cases h;exact⟨λ _ h=>h,λ _ h=>h,rfl,rfl⟩)
theorem wt(z:Array Value)(c:Nat):((Array.range (c*z.size)).map λ i=>z[i % z.size]!)=⟨bg z.size (λ _ k=>z.getD k default) c⟩:=by
 apply Array.ext';rw[Array.toList_map,Array.toList_range];show _=bg _ _ _
 symm
 refine iK (by simp) ?_;intro i k hi hk;have h1:i*z.size+k<c*z.size:=by
  have:(i+1)*z.size <= c*z.size:=Nat.mul_le_mul_right _ hi;rw[Nat.succ_mul] at this;omega
 rw[List.getElem?_map,List.getElem?_range h1];simp only[Option.map_some,Nat.mul_add_mod_self_right,Nat.mod_eq_of_lt hk];simp[getElem!_def,Array.getD,hk,getElem?_pos]
theorem gJ{P:Program}{n0:Nat}{F:HL}{o:Oper}{ρ:Operand -> Value}{ss rW:SS}{x:Next}{w:World}(h:ev P n0 o ρ ss=some (x,rW))
  (heq:∀p∈rW.eq,p.1=p.2) (iN:∀p∈rW.ob,p) (hR:Rel (ss.h++F) w) (hr:∀y∈ss.r,y∈F) (hn:ss.wr=true -> n0+ss.cnt=w.heap.size) :
  ∃w',(execOp ρ o).run P w=.ok x w' /\ Rel (rW.h++F) w' /\ Below 0 w w' /\ (ss.wr=true -> n0+rW.cnt=w'.heap.size) /\ (ss.wr=false -> w'=w):=by
 have g:∀hs:List Hint,ci P n0 (execOp ρ o) { ss with hints:=hs }=some (x,rW) -> ∃w',(execOp ρ o).run P w=.ok x w' /\ Rel (rW.h++F) w' /\ Below 0 w w' /\ (ss.wr=true -> n0+rW.cnt=w'.heap.size) /\ (ss.wr=false -> w'=w):=λ hs h=>by
  have h1:=mP (F:=F) (w:=w) _ _ _ _ h heq iN hR hr hn;exact h1
 have g':ci P n0 (execOp ρ o) ss=some (x,rW) -> ∃w',(execOp ρ o).run P w=.ok x w' /\ Rel (rW.h++F) w' /\ Below 0 w w' /\ (ss.wr=true -> n0+rW.cnt=w'.heap.size) /\ (ss.wr=false -> w'=w):=λ h=>by
  exact mP (F:=F) (w:=w) _ _ _ _ h heq iN hR hr hn
 unfold ev at h;split at h
 ·-- indexAddr
  rename_i t x' ix' DO;split at h
  case h_2=>exact g _ h
  case h_3=>exact g' h
  split at h
  ·rename_i elem a len cap k i hu hx hi;split at h
   case h_2=>cases h
   rename_i inf hs SK;cases h;obtain⟨o1,o2⟩:=iN _ (aaB);refine⟨w,?_,hR,Below.refl _ _,hn,λ _=>rfl⟩;subst o1;simp[execOp,DO,Instr.indexAt,hx,hi,asIntOf,underlying,hu,sizeOf,typeInfo,SK,nD,go_sem,gI hs,o2,program,bind,Sem.bind,Sem.run,pure]
  ·rename_i len elem a k i hu hx hi;split at h
   case h_2=>cases h
   rename_i inf hs SK;cases h;obtain⟨o1,o2⟩:=iN _ (aaB);refine⟨w,?_,hR,Below.refl _ _,hn,λ _=>rfl⟩;subst o1;simp[execOp,DO,Instr.indexAt,hx,hi,asIntOf,underlying,hu,sizeOf,typeInfo,SK,nD,go_sem,gI hs,o2,program,bind,Sem.bind,Sem.run,pure,Instr.sureAddr]
  ·cases h
 ·-- binOp
  rename_i op t x' y' ty DO;split at h
  case h_4=>exact g _ h
  case h_5=>exact g' h
  case h_3 =>
   split at h
   case h_5=>cases h
   case h_3 =>
    rename_i a b hx hy;cases h;exact⟨w,by simp[execOp,DO,hx,hy,eqGuard,Go.binOp,Op.stringOp,FQ,pure,bind,Sem.bind,Sem.run],hR,Below.refl _ _,hn,λ _=>rfl⟩
   case h_4 =>
    rename_i a b hx hy;cases h;exact⟨w,by simp[execOp,DO,hx,hy,eqGuard,Go.binOp,Op.stringOp,FQ,bne,pure,bind,Sem.bind,Sem.run],hR,Below.refl _ _,hn,λ _=>rfl⟩
   all_goals
    rename_i xs ys hx hy;split at h
    case h_2=>cases h
    rename_i b hg he;cases h;refine⟨w,?_,hR,Below.refl _ _,hn,λ _=>rfl⟩;have e2:=λ W=>BI _ _ _ _ _ W he;simp[execOp,DO,hx,hy,aa4,run_eqGuard_agg w _ t x' y' xs ys hg,run_eql_struct,run_neq_struct,e2]
  ·split at h
   case h_6=>cases h
   case h_4 =>
    rename_i a b hx hy;cases h;obtain⟨o1,o2,o3⟩:=iN _ (aaB);refine⟨w,?_,hR,Below.refl _ _,hn,λ _=>rfl⟩;have h1:a / b <= a:=Int.ediv_le_self _ o1;have h2:0 <= a / b:=Int.ediv_nonneg o1 (by omega);have hw:i64.wrap (a.tdiv b)=a / b:=by rw[Int.tdiv_eq_ediv_of_nonneg o1,IntKind.wrap_i64];omega
    have o4:¬ b=0:=by omega
    simp[execOp,DO,hx,hy,eqGuard,Go.binOp,Op.intDiv,o4,hw,pure,bind,Sem.bind,Sem.run]
   case h_5 =>
    rename_i a b hx hy;cases h;obtain⟨o1,o2,o3⟩:=iN _ (aaB);refine⟨w,?_,hR,Below.refl _ _,hn,λ _=>rfl⟩;have hw:a.tmod b=a % b:=Int.tmod_eq_emod_of_nonneg o1;have o4:¬ b=0:=by omega
    simp[execOp,DO,hx,hy,eqGuard,Go.binOp,Op.intDiv,o4,hw,pure,bind,Sem.bind,Sem.run]
   all_goals
    rename_i a b hx hy;cases h;have o1:=iN _ (aaB);refine⟨w,?_,hR,Below.refl _ _,hn,λ _=>rfl⟩;have hw:∀z:Int,-9223372036854775808 <= z /\ z <= 9223372036854775807 -> i64.wrap z=z:=λ z hz=>by rw[IntKind.wrap_i64];omega
    simp[execOp,DO,hx,hy,eqGuard,Go.binOp,Op.intArith,hw _ o1,pure,bind,Sem.bind,Sem.run]
  ·split at h
   case h_5=>cases h
   case h_3 =>
    rename_i k a yk b hx hy;cases h;have o1:¬ b<0:=by have:0 <= b:=iN _ (aaB);omega
    refine⟨w,?_,hR,Below.refl _ _,hn,λ _=>rfl⟩;simp[execOp,DO,hx,hy,eqGuard,Go.binOp,Op.shift,o1,pure,bind,Sem.bind,Sem.run]
   case h_4 =>
    rename_i k a yk b hx hy;cases h;have o1:¬ b<0:=by have:0 <= b:=iN _ (aaB);omega
    refine⟨w,?_,hR,Below.refl _ _,hn,λ _=>rfl⟩;simp[execOp,DO,hx,hy,eqGuard,Go.binOp,Op.shift,o1,pure,bind,Sem.bind,Sem.run]
   all_goals
    rename_i a b hx hy;cases h;have o1:b≠0:=iN _ (aaB);refine⟨w,?_,hR,Below.refl _ _,hn,λ _=>rfl⟩;simp[execOp,DO,hx,hy,eqGuard,Go.binOp,Op.intDiv,o1,pure,bind,Sem.bind,Sem.run]
 ·-- index
  rename_i t x' ix' DO;split at h
  case h_2=>exact g _ h
  case h_3=>exact g' h
  split at h
  case h_2=>cases h
  rename_i b k i hu hx hi;cases h;obtain⟨o1,o2⟩:=iN _ (aaB);refine⟨w,?_,hR,Below.refl _ _,hn,λ _=>rfl⟩;subst o1;have k3:=λ W=>aG hu W;simp[execOp,DO,Instr.index,hx,hi,asIntOf,k3,aa4,o2,FN]
 ·-- unOp
  rename_i op t x' DO;split at h
  case h_2=>exact g _ h
  case h_3=>exact g' h
  split at h
  case h_2=>cases h
  rename_i a hx;cases h;have o1:=iN _ (aaB);refine⟨w,?_,hR,Below.refl _ _,hn,λ _=>rfl⟩;have hw:i64.wrap (-a)=-a:=by rw[IntKind.wrap_i64];omega
  simp[execOp,DO,hx,Op.unary,Op.intArith,hw,pure,bind,Sem.bind,Sem.run]
 ·-- slice
  rename_i t x' lo hi mx DO;split at h
  case h_2=>exact g _ h
  case h_4=>exact g' h
  case h_3 =>
   rename_i hh hs WK;split at h
   case h_2=>cases h
   rename_i elem a len cap hu hx;split at h
   case h_2=>cases h
   rename_i inf SK;cases h;obtain⟨o2,o4⟩:=iN _ (aaB);refine⟨w,?_,hR,Below.refl _ _,hn,λ _=>rfl⟩;have k1:=iO (P:=P) (ρ:=ρ) (lo:=none) (hi:=hi) (l:=0) (h:=hh) (len:=len) (cap:=cap) rfl o2 (aaL _) o4 w;have k2:=λ W=>cZ SK W;have k3:=λ W=>aG hu W;have ea:(if cap=0 then a else Option.map (λ x=>x.add 0) a)=a:=by
    split
    ·rfl
    ·cases a <;> simp[Addr.add]
   rw[show Option.map ρ none=none from rfl] at k1;simp[execOp,DO,Instr.sliceAt,Instr.slice,hx,k3,sizeOf,k2,aa4,k1,ea]
  rename_i l hh e hs WK;split at h
  case h_2=>cases h
  rename_i elem a len cap hu hx;split at h
  case h_3=>cases h
  ·rename_i inf SK;cases h;obtain⟨o1,o2,o3,o4⟩:=iN _ (aaB);refine⟨w,?_,hR,Below.refl _ _,hn,λ _=>rfl⟩;have k1:=iO (P:=P) o1 o2 o3 o4 w;have k2:=λ W=>cZ SK W;have k3:=λ W=>aG hu W;simp[execOp,DO,Instr.sliceAt,Instr.slice,hx,k3,sizeOf,k2,aa4,k1]
  ·rename_i a inf SK;split at h
   case h_2=>cases h
   rename_i VE;cases h;obtain⟨o1,o2,o3,o4,o5⟩:=iN _ (aaB);refine⟨w,?_,hR,Below.refl _ _,hn,λ _=>rfl⟩;have k1:=iO (P:=P) o1 o2 o3 o4 w;have k2:=λ W=>cZ SK W;have k3:=λ W=>aG hu W;cases e
   ·simp only at o5 ⊢;simp[execOp,DO,Instr.sliceAt,Instr.slice,hx,k3,sizeOf,k2,aa4,k1,o5,gI VE]
   ·simp only at o5 ⊢;subst o5;simp[execOp,DO,Instr.sliceAt,Instr.slice,hx,k3,sizeOf,k2,aa4,k1]
 ·-- makeSlice
  rename_i t x' y' DO;split at h
  case h_2=>exact g _ h
  case h_3=>exact g' h
  rename_i l c hs WK;split at h
  case h_2=>cases h
  rename_i elem a b hu hx hy;split at h
  case h_2=>cases h
  rename_i inf SK;split at h
  case h_2=>cases h
  rename_i z hz Ve;cases h
  replace hn:=hn Ve
  obtain⟨o1,o2,o3,o4,o5,o6⟩:=iN _ (aaB);subst o1;subst o2;have hl:i64.wrap (l:Int)=l:=by rw[IntKind.wrap_i64];omega
  have hc:i64.wrap (c:Int)=c:=by rw[IntKind.wrap_i64];omega
  have C_:=hR.cons (.rows inf.size c (λ _ k=>z.cells.getD k default) elem (0,0)) (o:=.cells ⟨bg inf.size (λ _ k=>z.cells.getD k default) c⟩ elem (0,0)) rfl;rw[<- hn] at C_;refine⟨_,?_,C_,⟨rfl,rfl,rfl,by simp,λ k hk=>by omega⟩,λ _=>by simp;omega,λ e=>by rw[Ve] at e;cases e⟩;have acQ:¬ ((281474976710656:Int)<(inf.bytes:Int)*(c:Int)):=by
   have:((inf.bytes*c:Nat):Int)=(inf.bytes:Int)*(c:Int):=by simp
   rw[<- this];omega
  have z_:¬ (roomBytes<c*inf.bytes):=by unfold roomBytes;rw[Nat.mul_comm];omega
  have hlc:¬ ((c:Int)<l):=by omega
  have VI:¬ ((l:Int)<0):=by omega
  have hc0:¬ ((c:Int)<0):=by omega
  have k2:=λ W=>cZ SK W;have k3:=λ W=>aG hu W
  by_cases h0:c*inf.size=0
  ·have he:∀g,bg inf.size g c=[]:=λ g=>by
    apply aaY;rw[cy];exact h0
   have hr0:∀f:Nat -> Value,Array.map f (Array.range 0)=⟨[]⟩:=λ f=>by simp
   simp[execOp,DO,Instr.makeSlice,hx,hy,k3,sizeOf,k2,zeroValue,hz,aa4,asInt,asIntOf,hl,hc,acQ,z_,hlc,VI,hc0,h0,askRoom,newRow,newObj,he,hr0,Sem.run,hn]
  ·have hzf:=wt z.cells c;rw[o5] at hzf;simp[execOp,DO,Instr.makeSlice,hx,hy,k3,sizeOf,k2,zeroValue,hz,aa4,asInt,asIntOf,hl,hc,acQ,z_,hlc,VI,hc0,h0,askRoom,newRow,newObj,Sem.run,hn,o5,hzf]
 ·-- pick
  rename_i x' a' b' DO;split at h
  case h_2=>exact g _ h
  case h_3=>exact g' h
  split at h
  case h_2=>cases h
  rename_i t ht;cases h;have o1:=iN _ (aaB);refine⟨w,?_,hR,Below.refl _ _,hn,λ _=>rfl⟩;subst o1;cases t <;> simp[execOp,DO,ht,asBool]
 ·-- lookup
  rename_i t x' ix' ok DO;split at h
  case h_3=>exact g _ h
  case h_4=>exact g' h
  all_goals
   split at h
   case h_2=>cases h
   rename_i kt et b k b' O hu hx hi hp;split at h
   case h_2=>cases h
   rename_i z hk hz;cases h;obtain⟨o1,o2⟩:=iN _ (aaB);have e1:b=b':=heq _ (aaB);subst o1;subst e1;subst o2;rw[Option.bind_eq_some_iff] at hz;obtain⟨inf,SK,hz⟩:=hz;refine⟨w,?_,hR,Below.refl _ _,hn,λ _=>rfl⟩;have hb:w.heap[b]?=some (FP _):=hR.holds (b,.obj (FP _)) (by first|exact aaA _ (List.mem_of_getElem? hp)|exact aay _ (hr _ (List.mem_of_getElem? hp)));have:=zy (P:=P) (w:=w) (k:=k) ok hu hk SK hz hb;simp only[execOp,DO,hx,hi,aa4,this,Result.andThen];rfl
 ·exact g' h
def jl(ops:List Oper)(o:Oper)(L:FL)(s:SS):Option (Bool × SS):=match o.guard with
 | none=>some (true,s)
 | some (j,want)=>match (ops[j]?).bind (·.dst) with
  | some d=>match L.lookup d with
   | some (.bool b)=>match s.hints with
    | .gd c::hs=>some (c == want,{ s with hints:=hs,ob:=(b=c)::s.ob })
    | .gen::hs=>some (b == want,{ s with hints:=hs })
    | _=>some (b == want,s)
   | some (.tuple _)=>some (false,s)
   | _=>none
  | none=>none
theorem cj{N:Nat}{D:List Deferred}{ops:Array Oper}{o:Oper}{L:FL}{s s':SS}{b:Bool}{a:Act}(h:jl ops.toList o L s=some (b,s'))(hF:Fm N D L a)(iN:∀p∈s'.ob,p) :
  Region.wanted o (yielded ops a.tmps)=b /\ s'.h=s.h /\ s'.cnt=s.cnt:=by
 unfold jl at h;unfold Region.wanted;split at h
 ·rename_i hg;cases h;rw[hg];exact⟨rfl,rfl,rfl⟩
 ·rename_i j want hg;rw[hg];simp only;split at h
  case h_2=>cases h
  rename_i d hd;have UF:(ops[j]?).bind (·.dst)=some d:=by simpa using hd
  split at h
  ·rename_i x hx;have hy:yielded ops a.tmps j=some x:=by unfold yielded;rw[UF];simp[hF.has _ _ hx]
   split at h
   ·cases h;have:=iN _ (aaB);subst this;rw[hy];exact⟨by simp,rfl,rfl⟩
   ·cases h;rw[hy];exact⟨by simp,rfl,rfl⟩
   ·cases h;rw[hy];exact⟨by simp,rfl,rfl⟩
  ·rename_i x hx;cases h;have hy:yielded ops a.tmps j=none:=by unfold yielded;rw[UF];simp[hF.has _ _ hx]
   rw[hy];exact⟨rfl,rfl,rfl⟩
  ·cases h
theorem bI{ops:List Oper}{o:Oper}{L:FL}{s s':SS}{b:Bool}(h:jl ops o L s=some (b,s')):(∀p∈s.eq,p∈s'.eq) /\ (∀p∈s.ob,p∈s'.ob) /\ s'.r=s.r /\ s'.wr=s.wr:=by
 unfold jl at h
 repeat' split at h
 all_goals first
  | (cases h;done)
  | (cases h;exact⟨λ _ h=>h,λ _ h=>h,rfl,rfl⟩)
  | (cases h;exact⟨λ _ h=>h,λ _ h=>aaE _ h,rfl,rfl⟩)
def wu(P:Program)(n0 N:Nat)(ops:List Oper):List Oper -> FL -> SS -> Option (FL × SS)
 | [],L,s=>some (L,s)
 | o::rest,L,s=>match jl ops o L s with
  | none=>none
  | some (false,s)=>match eh N o.dst undef L with
   | some L=>wu P n0 N ops rest L s
   | none=>none
  | some (true,s)=>match iM o.op L with
   | false=>none
   | true=>match ev P n0 o (eZ L) s with
    | some (.value v,s)=>match eh N o.dst v L with
     | some L=>wu P n0 N ops rest L s
     | none=>none
    | some (.skip,s)=>match eh N o.dst undef L with
     | some L=>wu P n0 N ops rest L s
     | none=>none
    | _=>none
theorem lL{P:Program}{n0 N:Nat}{ops:List Oper}:∀ (l:List Oper) (L L':FL) (s s':SS),wu P n0 N ops l L s=some (L',s') -> (∀p∈s.eq,p∈s'.eq) /\ (∀p∈s.ob,p∈s'.ob) /\ s'.r=s.r
 | [],L,L',s,s',h=>by rw[wu] at h;cases h;exact⟨λ _ h=>h,λ _ h=>h,rfl⟩
 | o::rest,L,L',s,s',h=>by
  rw[wu] at h;split at h
  ·cases h
  ·rename_i s1 hw;split at h
   case h_2=>cases h
   obtain⟨a1,a2,a3,a4⟩:=bI hw;obtain⟨b1,b2,b3⟩:=lL rest _ _ _ _ h;exact⟨λ p hp=>b1 p (a1 p hp),λ p hp=>b2 p (a2 p hp),b3.trans a3⟩
  ·rename_i s1 hw;split at h
   ·cases h
   obtain⟨a1,a2,a3,a4⟩:=bI hw;split at h
   ·rename_i v s2 he;split at h
    case h_2=>cases h
    obtain⟨c1,c2,c3,c4⟩:=dG he;obtain⟨b1,b2,b3⟩:=lL rest _ _ _ _ h;exact⟨λ p hp=>b1 p (c1 p (a1 p hp)),λ p hp=>b2 p (c2 p (a2 p hp)),b3.trans (c3.trans a3)⟩
   ·rename_i s2 he;split at h
    case h_2=>cases h
    obtain⟨c1,c2,c3,c4⟩:=dG he;obtain⟨b1,b2,b3⟩:=lL rest _ _ _ _ h;exact⟨λ p hp=>b1 p (c1 p (a1 p hp)),λ p hp=>b2 p (c2 p (a2 p hp)),b3.trans (c3.trans a3)⟩
   ·cases h
def Wr(r:Option Nat):Fence:={ fn:=λ _=>True,depth:=none,alive:=false,round:=r }
theorem jQ{r:Option Nat}{n:Nat}{P:Program}{f:FuncId}{args:Array Value}{w:World}{R:Ending -> World -> Prop}(h:Calls P f args w R):CallsIn (Wr r) n P f args w R:=(callsIn_wide (n:=n)).2 h
theorem wv{o:Op}{L:FL}(h:iM o L=true):∀c,o ≠ .defer c:=by
 rintro c rfl;simp[iM,cf] at h
theorem Fm.sem{r:Option Nat}{N:Nat}{D:List Deferred}{L:FL}{a:Act}(h:Fm N D L a){o:Oper}(ho:iM o.op L=true):o.semAt (Wr r).round a.eval=execOp (eZ L) o:=by
 rw[Oper.semAt_eq _ _ _ (wv ho),h.exec ho]
def AllP:List Prop -> Prop
 | []=>True
 | p::l=>p /\ AllP l
theorem AllP.mem:∀ {l:List Prop},AllP l -> ∀p∈l,p
 | _::_,h,p,hp=>by
  rcases List.mem_cons.1 hp with rfl|hp
  ·exact h.1
  ·exact AllP.mem h.2 p hp
def TR(r:Option Nat)(P:Program)(N:Nat)(D:List Deferred)(F:HL)(w0:World)(L:FL)(H:HL)(c:Code)(Q:Exit -> Act -> World -> Prop):Prop :=
 ∀a w,Fm N D L a -> Rel (H++F) w -> Below 0 w0 w -> c.wpIn (Wr r) 0 P Q a w
def EX(N:Nat)(D:List Deferred)(F:HL)(w0:World)(L:FL)(H:HL)(Q:Exit -> Act -> World -> Prop)(e:Exit):Prop :=
 ∀a w,Fm N D L a -> Rel (H++F) w -> Below 0 w0 w -> Q e a w
theorem fU:∀ {l:List (Nat × Nat)} {E:List Nat},l.map (·.1)=E -> l.map (·.2)=E -> ∀p∈l,p.1=p.2
 | [],_,_,_,p,hp=>by cases hp
 | q::l,E,h1,h2,p,hp=>by
  subst h1;simp only[List.map_cons,List.cons.injEq] at h2;rcases List.mem_cons.1 hp with rfl|hp
  ·exact h2.1.symm
  ·exact fU rfl h2.2 p hp
section
variable {r:Option Nat} {P:Program} {N:Nat} {D:List Deferred} {F:HL} {w0:World} {ops:Array Oper} {i:Nat} {L:FL} {H:HL} {Q:Exit -> Act -> World -> Prop}
def Sp(P:Program)(f:FuncId)(args:Array Value)(H F:HL)(R:Value -> HL -> Prop):Prop :=
 ∀w,Rel (H++F) w -> Calls P f args w λ e w'=>∃v H',e=.returned v /\ R v H' /\ Rel (H'++F) w' /\ Below 0 w w'
theorem Sp.mono{f:FuncId}{args:Array Value}{R R':Value -> HL -> Prop}(h:Sp P f args H F R)(hr:∀v H',R v H' -> R' v H'):Sp P f args H F R' :=
 λ w hR=>(h w hR).mono λ e w' ⟨v,H',h1,h2,h3,h4⟩=>⟨v,H',h1,hr _ _ h2,h3,h4⟩
end
def nE(P:Program)(n0 N:Nat)(ops:List Oper)(i:Nat)(L:FL)(H R:HL)(hints:List Hint):Option (Option Tmp × FuncId × Array Value × HL × List Nat × List Nat × List Prop) :=
 match ops[i]? with
 | none=>none
 | some o=>match jl ops o L ⟨H,R,hints,0,[],[],true⟩ with
  | some (true,s)=>match iM o.op L with
   | true=>match ev P n0 o (eZ L) s with
    | some (.enter f args,s')=>match s'.hints with
     | []=>some (o.dst,f,args,s'.h,s'.eq.map (·.1),s'.eq.map (·.2),s'.ob)
     | _=>none
    | _=>none
   | false=>none
  | _=>none
section
variable {r:Option Nat} {P:Program} {N:Nat} {D:List Deferred} {F:HL} {w0:World} {ops:Array Oper} {i:Nat} {L:FL} {H:HL} {Q:Exit -> Act -> World -> Prop}
theorem iP{n0:Nat}{R:HL}{hints:List Hint}{dst:Option Tmp}{f:FuncId}{args:Array Value}{H1:HL}{E E':List Nat}{Ob:List Prop}{l:List Oper}
  (h:nE P n0 N l i L H R hints=some (dst,f,args,H1,E,E',Ob)) :
  ∃o s s',l[i]?=some o /\ jl l o L ⟨H,R,hints,0,[],[],true⟩=some (true,s) /\ iM o.op L=true /\ ev P n0 o (eZ L) s=some (.enter f args,s') /\ o.dst=dst /\ s'.h=H1 /\ s'.eq.map (·.1)=E /\ s'.eq.map (·.2)=E' /\ s'.ob=Ob:=by
 unfold nE at h;split at h
 ·cases h
 ·rename_i o ho;split at h
  case h_2=>cases h
  rename_i s hs;split at h
  case h_2=>cases h
  rename_i g_;split at h
  case h_2=>cases h
  rename_i f' iS s' he;split at h
  case h_2=>cases h
  simp only[Option.some.injEq,Prod.mk.injEq] at h;obtain⟨e1,e2,e3,e4,e5,e6,e7⟩:=h;subst e2;subst e3;exact⟨o,s,s',ho,hs,g_,he,e1,e4,e5,e6,e7⟩
theorem TR.exit{id:Nat}(h:EX N D F w0 L H Q (.exit id)):TR r P N D F w0 L H (.exit id) Q:=λ a w h1 h2 h3=>wpIn_exit (h a w h1 h2 h3)
theorem Ko(h:EX N D F w0 L H Q .ret):TR r P N D F w0 L H .ret Q:=λ a w h1 h2 h3=>wpIn_ret (h a w h1 h2 h3)
abbrev ap(A:HL)(Ts:List HL):HL:=A++Ts.flatten
theorem fL{α:Type}(l:List α)(ip ir:List Nat)(hp:(ip++ir).isPerm (List.range l.length)=true):(ip.filterMap (l[·]?)++ir.filterMap (l[·]?)).Perm l:=by
 have h1:=(List.isPerm_iff.1 hp).filterMap (l[·]?);have h2:(List.range l.length).filterMap (l[·]?)=l:=by
  clear hp h1
  induction l with
  | nil=>rfl
  | cons x l ih =>
   rw[aaS,List.range_succ_eq_map,List.filterMap_cons];simp only[List.getElem?_cons_zero,List.filterMap_map];congr 1
 rw[h2,List.filterMap_append] at h1;exact h1
theorem lM(A:HL)(Ts:List HL)(ip ir jp jr:List Nat)(hp:(ip++ir).isPerm (List.range A.length)=true)(hj:(jp++jr).isPerm (List.range Ts.length)=true) :
  (ap (ip.filterMap (A[·]?)) (jp.filterMap (Ts[·]?))++ap (ir.filterMap (A[·]?)) (jr.filterMap (Ts[·]?))).Perm (ap A Ts):=by
 have h1:=fL A ip ir hp;have h2:=(fL Ts jp jr hj).flatten;rw[List.flatten_append] at h2;refine List.Perm.trans ?_ (List.Perm.append h1 h2);rw[aaH,aaH];refine List.Perm.append_left _ ?_;rw[<- aaH,<- aaH];exact aaX _ aaW
theorem uJ(A B:HL)(As Bs:List HL)(C:HL):(ap A As++(ap B Bs++C)).Perm (ap (A++B) (As++Bs)++C):=by
 rw[<- aaH];refine aaX C ?_;show (A++As.flatten++(B++Bs.flatten)).Perm (A++B++(As++Bs).flatten);rw[List.flatten_append,aaH,aaH];refine List.Perm.append_left _ ?_;rw[<- aaH,<- aaH];exact aaX _ aaW
theorem Rel.takeT{A F H':HL}{Ts:List HL}{w:World}(ip ir jp jr:List Nat)(hp:(ip++ir).isPerm (List.range A.length)=true)(hj:(jp++jr).isPerm (List.range Ts.length)=true)(e:ap (ip.filterMap (A[·]?)) (jp.filterMap (Ts[·]?))=H')(h:Rel (ap A Ts++F) w):Rel (H'++F) w:=by
 have h1:=h.perm ((lM A Ts ip ir jp jr hp hj).append_right F);rw[aaH,e] at h1;exact h1.sub ((List.Sublist.refl _).append (List.sublist_append_right _ _))
theorem fM{P:Program}{b:Frame}{a:Act}{c:Code}{k:List Item}{cs:List Frame}{w:World} :
  step P (lone (b.atR a (.code (.scope c)::k)) cs w)=.next (lone (b.atR a (.code c :: .inScope c::k)) cs w) :=
 step_lone_go (by simp[stepG,stepG.exec,Frame.atR])
theorem sC{P:Program}{b:Frame}{a:Act}{c:Code}{k:List Item}{cs:List Frame}{w:World} :
  step P (lone (b.atR a (.inScope c::k)) cs w)=.next (lone (b.atR a k) cs w) :=
 step_lone_go (by simp[stepG,stepG.exec,Frame.atR])
theorem ij{Fe:Fence}{n:Nat}{P:Program}{c:Code}{Q:Exit -> Act -> World -> Prop}{a:Act}{w:World}(h:c.wpIn Fe n P (Exit.noGoto Q) a w):(Code.scope c).wpIn Fe n P Q a w:=by
 intro b k cs SI hb hr;have h0:(lone (b.atR a (.code (.scope c)::k)) cs w).fenced P Fe:=fenced_calm hb hr rfl;obtain⟨e,a₁,w₁,hq,oR⟩:=h b (.inScope c::k) cs SI hb hr;cases e with
 | normal=>exact⟨.normal,a₁,w₁,hq,.head h0 fM (StepsIn.trans oR (.one (fenced_calm hb hr rfl) sC))⟩
 | exit id=>exact⟨.exit id,a₁,w₁,hq,λ k' hk=>.head h0 fM (oR.1 k' (by simp[exitTo,hk])),λ ae8 hk=>let ⟨k₁,h1,h2⟩:=oR.2 ae8 (by simpa [exitTo] using hk);⟨k₁,h1,.head h0 fM h2⟩⟩
 | goto l=>exact hq.elim
 | ret=>exact⟨_,a₁,w₁,hq,.of_steps (.one h0 fM) oR⟩
 | panic ch=>exact⟨_,a₁,w₁,hq,.of_steps (.one h0 fM) oR⟩
 | outgrown=>exact⟨_,a₁,w₁,hq,.of_steps (.one h0 fM) oR⟩
abbrev vI(n:Int):Value:=.int .i64 n
abbrev vP(b o:Nat):Value:=.pointer (some ⟨b,o,none⟩)
abbrev vS(b o n c:Nat):Value:=.slice (some ⟨b,o,none⟩) n c
def kX(l:List Value):Nat -> Nat -> Value:=λ _ k=>(⟨l⟩:Array Value).getD k default
theorem ac{p:Prop}{l:List Prop}(h:p)(k:AllP l):AllP (p::l):=⟨h,k⟩
theorem an:AllP []:=trivial
theorem mc{F R:HL}{x:Nat × Blk}(h:x∈F)(k:∀y∈R,y∈F):∀y∈x::R,y∈F:=λ y hy=>by
 rcases List.mem_cons.1 hy with rfl|hy
 ·exact h
 ·exact k y hy
theorem mn{F:HL}:∀y∈([]:HL),y∈F:=λ y hy=>by cases hy
def Nc{σ:Type}(N:Nat)(D:List Deferred)(F:HL)(w0:World)(Lx:σ -> FL)(Hx:σ -> HL)(I:σ -> Prop)(a:Act)(w:World):Prop :=
 ∃x,I x /\ Fm N D (Lx x) a /\ Rel (Hx x++F) w /\ Below 0 w0 w
theorem TR.loop{σ:Type}(Lx:σ -> FL)(Hx:σ -> HL)(I:σ -> Prop)(μ:σ -> Nat){c:Code}(x0:σ)(hi:I x0)(keys:List Nat)(hL:sZ keys L=some (Lx x0)){A:HL}{Ts:List HL}(ip ir jp jr:List Nat)(hp:(ip++ir).isPerm (List.range A.length)=true)(hj:(jp++jr).isPerm (List.range Ts.length)=true)(hH:ap (ip.filterMap (A[·]?)) (jp.filterMap (Ts[·]?))=Hx x0)
  (round:∀x,I x -> TR r P N D F w0 (Lx x) (Hx x) c (Exit.then (Nc N D F w0 Lx Hx (λ x'=>I x' /\ μ x'<μ x)) Q)):TR r P N D F w0 L (ap A Ts) (.loop c) Q:=by
 intro a w h1 h2 h3
 replace h2:=h2.takeT ip ir jp jr hp hj hH
 have key:∀n x,μ x <= n -> I x -> ∀a w,Fm N D (Lx x) a -> Rel (Hx x++F) w -> Below 0 w0 w -> ∀ (b:Frame) (k:List Item) (cs:List Frame),b.roundOf=(Wr r).round -> (Wr r).fn b.fn -> (Wr r).room (cs.length+1+0) -> ∃e a' w',Q e a' w' /\ ArrivesIn (Machine.fenced P (Wr r)) P (lone (b.atR a (.code c :: .inLoop c::k)) cs w) b k cs e a' w':=by
  intro n
  induction n using Nat.strongRecOn with
  | _ n ih =>
   intro x hn hI a w k1 k2 k3 b k cs SI hb hr;obtain⟨e,a₁,w₁,hq,oR⟩:=round x hI a w k1 k2 k3 b (.inLoop c::k) cs SI hb hr;cases e with
   | normal =>
    obtain⟨x',⟨hI',iF⟩,m1,m2,m3⟩:=hq;obtain⟨e₂,a₂,w₂,UR,SE⟩:=ih (μ x') (by omega) x' (aaK _) hI' a₁ w₁ m1 m2 m3 b k cs SI hb hr;exact⟨e₂,a₂,w₂,UR,.of_steps (StepsIn.trans oR (.one (fenced_calm hb hr rfl) stepR_inLoop)) SE⟩
   | exit id=>exact⟨_,a₁,w₁,hq,.pass (x:=.inLoop c) rfl (λ _ _=>.inl (by simp)) oR⟩
   | goto l=>exact⟨_,a₁,w₁,hq,.pass (x:=.inLoop c) rfl (λ _ _=>.inl (by simp)) oR⟩
   | ret=>exact⟨_,a₁,w₁,hq,.pass (x:=.inLoop c) rfl (λ _ _=>.inl (by simp)) oR⟩
   | panic ch=>exact⟨_,a₁,w₁,hq,.pass (x:=.inLoop c) rfl (λ _ _=>.inl (by simp)) oR⟩
   | outgrown=>exact⟨_,a₁,w₁,hq,.pass (x:=.inLoop c) rfl (λ _ _=>.inl (by simp)) oR⟩
 intro b k cs SI hb hr;obtain⟨e,a',w',hq,oR⟩:=key _ x0 (aaK _) hi a w (h1.pick hL) h2 h3 b k cs SI hb hr;exact⟨e,a',w',hq,.of_steps (.one (fenced_calm hb hr rfl) stepR_loop) oR⟩
def BJ(F:HL)(w0:World)(R:Value -> HL -> Prop)(e:Ending)(w':World):Prop:=∃v H',e=.returned v /\ R v H' /\ Rel (H'++F) w' /\ Below 0 w0 w'
def qE:Nat -> List Value -> FL
 | _,[]=>[]
 | n,v::l=>(n,v)::qE (n+1) l
theorem kj:∀ (n:Nat) (l:List Value) (t:Nat) (v:Value),(qE n l).lookup t=some v -> n <= t /\ l[t-n]?=some v
 | _,[],_,_,h=>by cases h
 | n,u::l,t,v,h=>by
  rw[qE,List.lookup_cons] at h
  by_cases e:t=n
  ·subst e;simp at h;subst h;simp
  ·have:(t == n)=false:=by simpa using e
   rw[this] at h;obtain⟨h1,h2⟩:=kj (n+1) l t v h;refine⟨by omega,?_⟩;have:t-n=(t-(n+1))+1:=by omega
   rw[this];simpa using h2
theorem zz{f:FuncId}{fn:Func}{c:Code}{args:Array Value}{R:Value -> HL -> Prop}(hf:P.funcs[f]?=some fn)(hb:fn.body=some c)(hn:fn.ntmps=N)(ha:decide (args.size <= N)=true)
  (L:FL) (hL:qE 0 args.toList=L) (h:∀w0,TR none P N [] F w0 L H c (bodyPost P fn (BJ F w0 R))):Sp P f args H F R:=by
 intro w hR;refine calls_of_wp hf hb ((wpIn_wide (n:=0)).1 ?_);have ha':args.size <= N:=aa5 ha;refine h w _ w ⟨?_,rfl,?_⟩ hR (Below.refl _ _)
 ·simp[hn];omega
 ·subst hL;intro t v ht;obtain⟨_,h2⟩:=kj 0 _ t v ht;have h3:args[t]?=some v:=by simpa using h2
  have iF:t<args.size:=(Array.getElem?_eq_some_iff.1 h3).1;simp only;rw[Array.getElem?_append_left iF];exact h3
def resL(P:Program)(n0:Nat)(L:FL):List ResultVar -> SS -> Option (List Value × SS)
 | [],s=>some ([],s)
 | .tmp t::l,s=>match L.lookup t with
  | some v=>match resL P n0 L l s with
   | some (vs,s)=>some (v::vs,s)
   | none=>none
  | none=>none
 | .cell t ty::l,s=>match L.lookup t with
  | some (.pointer (some a))=>match ci P n0 (loadVar ty a) s with
   | some (v,s)=>match resL P n0 L l s with
    | some (vs,s)=>some (v::vs,s)
    | none=>none
   | none=>none
  | _=>none
def Rf:List Value -> Value
 | [v]=>v
 | vs=>.tuple ⟨vs⟩
def zA(P:Program)(n0:Nat)(L:FL)(rs:List ResultVar)(H R:HL)(hints:List Hint):Option (Value × List Nat × List Nat × List Prop) :=
 match resL P n0 L rs ⟨H,R,hints,0,[],[],false⟩ with
 | some (vs,s)=>match s.hints with
  | []=>some (Rf vs,s.eq.map (·.1),s.eq.map (·.2),s.ob)
  | _=>none
 | none=>none
theorem mQ{n0:Nat}:∀ (rs:List ResultVar) (s s':SS) (vs:List Value),resL P n0 L rs s=some (vs,s') -> (∀p∈s.eq,p∈s'.eq) /\ (∀p∈s.ob,p∈s'.ob)
 | [],s,s',vs,h=>by rw[resL] at h;cases h;exact⟨λ _ h=>h,λ _ h=>h⟩
 | .tmp t::l,s,s',vs,h=>by
  rw[resL] at h;split at h
  ·split at h
   ·rename_i hr;cases h;exact mQ l _ _ _ hr
   ·cases h
  ·cases h
 | .cell t ty::l,s,s',vs,h=>by
  rw[resL] at h;split at h
  ·split at h
   ·rename_i ha;split at h
    ·rename_i hr;cases h;obtain⟨a1,a2,_⟩:=dF _ _ _ _ ha;obtain⟨b1,b2⟩:=mQ l _ _ _ hr;exact⟨λ p hp=>b1 p (a1 p hp),λ p hp=>b2 p (a2 p hp)⟩
    ·cases h
   ·cases h
  ·cases h
def wx(tmps:Array Value):ResultVar -> Sem Value
 | .tmp t=>pure (tmps.getD t undef)
 | .cell a t=>do loadVar t (<- asAddr (tmps.getD a undef))
theorem jR{n0:Nat}{a:Act}{w:World}(hF:Fm N D L a)(hR:Rel (H++F) w):∀ (rs:List ResultVar) (s s':SS) (vs:List Value),resL P n0 L rs s=some (vs,s') -> s.wr=false -> s.h=H -> (∀y∈s.r,y∈F) -> (s.wr=true -> n0+s.cnt=w.heap.size) ->
  (∀p∈s'.eq,p.1=p.2) -> (∀p∈s'.ob,p) -> (rs.mapM (wx a.tmps)).run P w=.ok vs w
 | [],s,s',vs,h,_,_,_,_,_,_=>by rw[resL] at h;cases h;rfl
 | .tmp t::l,s,s',vs,h,hw,hh,hr,hn,heq,iN=>by
  rw[resL] at h;split at h
  ·rename_i v hv;split at h
   ·rename_i IS s1 WD;cases h;have ih:=jR hF hR l _ _ _ WD hw hh hr hn heq iN;rw[List.mapM_cons,aa4];simp[wx,hF.has _ _ hv,aa4,ih]
   ·cases h
  ·cases h
 | .cell t ty::l,s,s',vs,h,hw,hh,hr,hn,heq,iN=>by
  rw[resL] at h;split at h
  ·rename_i ad hv;split at h
   ·rename_i v s1 ha;split at h
    ·rename_i IS s2 WD;cases h;obtain⟨a1,a2,a3,a4⟩:=dF _ _ _ _ ha;obtain⟨b1,b2⟩:=mQ l _ _ _ WD;obtain⟨w1,e1,e2,e3,e4,e5⟩:=mP (F:=F) _ _ _ _ w ha (λ p hp=>heq p (b1 p hp)) (λ p hp=>iN p (b2 p hp)) (by rw[hh];exact hR) hr hn;obtain rfl:=e5 hw;have hh1:s1.h=H:=by rw[BG _ _ _ _ ha hw];exact hh
     have ih:=jR hF hR l _ _ _ WD (a4.trans hw) hh1 (by rw[a3];exact hr) (λ e=>e4 (a4.symm.trans e)) heq iN;rw[List.mapM_cons,aa4];simp[wx,hF.has _ _ hv,aa4,asAddr,e1,ih]
    ·cases h
   ·cases h
  ·cases h
theorem jm{fn:Func}{rs:List ResultVar}(Wb:fn.results=⟨rs⟩){tmps:Array Value}{w:World}{vs:List Value}(h:(rs.mapM (wx tmps)).run P w=.ok vs w):(results fn tmps).run P w=.ok (Rf vs) w:=by
 have h1:(results fn tmps)=(do let vs <- (⟨rs⟩:Array ResultVar).mapM (wx tmps);pure (if h:vs.size=1 then vs[0] else .tuple vs)):=by
  unfold results;rw[Wb];congr 1
 rw[h1];have h2:(⟨rs⟩:Array ResultVar).mapM (wx tmps)=List.toArray <$> rs.mapM (wx tmps):=by simp
 rw[h2];have h3:((List.toArray <$> rs.mapM (wx tmps)):Sem (Array Value)).run P w=.ok ⟨vs⟩ w:=by
  rw[map_eq_pure_bind,aa4,h];rfl
 rw[aa4,h3]
 match vs with
 | []=>rfl
 | [v]=>rfl
 | v::u::l=>simp[Rf]
theorem TR.ret{fn:Func}{R:Value -> HL -> Prop}(hQ:∀a w,bodyPost P fn (BJ F w0 R) .ret a w -> Q .ret a w){rs:List ResultVar}(Wb:fn.results=⟨rs⟩)(hD:D=[])(Ro:HL)(hints:List Hint)(v:Value)(E:List Nat)(Ob:List Prop)
  {A:HL} {Ts:List HL} (h:∀n0,zA P n0 L rs (ap A Ts) Ro hints=some (v,E,E,Ob)) (X4:∀y∈Ro,y∈F) (iN:AllP Ob) (ip ir jp jr:List Nat) (H':HL) (hp:(ip++ir).isPerm (List.range A.length)=true) (hj:(jp++jr).isPerm (List.range Ts.length)=true) (hH:ap (ip.filterMap (A[·]?)) (jp.filterMap (Ts[·]?))=H') (hv:R v H'):TR r P N D F w0 L (ap A Ts) .ret Q:=by
 refine Ko ?_;intro a w hF hR hB;refine hQ a w ?_;have h':=h w.heap.size;unfold zA at h';split at h'
 case h_2=>cases h'
 rename_i vs s hs;split at h'
 case h_2=>cases h'
 simp only[Option.some.injEq,Prod.mk.injEq] at h';obtain⟨e1,e2,e3,e4⟩:=h';have iD:=jR (P:=P) hF hR rs _ _ _ hs rfl rfl X4 (λ e=>by cases e) (fU e2 e3) (by rw[e4];exact AllP.mem iN);subst e1;exact⟨hF.defs.trans hD,_,jm Wb iD,_,H',rfl,hv,hR.takeT ip ir jp jr hp hj hH,hB⟩
theorem wy{f:FuncId}{args:Array Value}{v:Value}(h:∀w,Calls P f args w λ e w'=>e=.returned v /\ w'=w)(F:HL):Sp P f args [] F (λ u H'=>u=v /\ H'=[]):=λ w hR =>
 (h w).mono λ e w' ⟨h1,h2⟩=>⟨v,[],h1,⟨rfl,rfl⟩,by rw[h2];exact hR,by rw[h2];exact Below.refl _ _⟩
end
def di(P:Program)(o:Oper)(a:Act)(w:World)(R:Value -> World -> Prop):Prop:=match (execOp a.eval o).run P w with
 | .ok (.value u) w'=>R u w'
 | .ok .skip w'=>R undef w'
 | .ok (.enter f args) w'=>Calls P f args w' fun
  | .returned u,w''=>R u w''
  | _,_=>False
 | _=>False
theorem fc{P:Program}{o:Oper}{a:Act}{w:World}{R R':Value -> World -> Prop}(h:di P o a w R)(hr:∀u w,R u w -> R' u w):di P o a w R':=by
 unfold di at *;split at h
 ·exact hr _ _ h
 ·exact hr _ _ h
 ·exact h.mono λ e w he=>by cases e <;> first|exact hr _ _ he|exact he
 ·exact h
theorem eF{r:Option Nat}{P:Program}{o:Oper}{a:Act}{w:World}{R:Value -> World -> Prop}{K:Act -> World -> Prop}{Q:Exit -> Act -> World -> Prop}(hd:∀c,o.op ≠ .defer c)(h:di P o a w R)(hk:∀u w',R u w' -> K (a.put o.dst u) w') :
  o.uponIn (Wr r) 0 P a K Q ((o.semAt (Wr r).round a.eval).run P w):=by
 rw[Oper.semAt_eq _ _ _ hd];unfold di at h;split at h
 ·rename_i u w' he;rw[he];exact hk _ _ h
 ·rename_i w' he;rw[he];exact hk _ _ h
 ·rename_i f args w' he;rw[he,Oper.uponIn_enter];exact⟨λ h=>(by cases h),jQ (h.mono λ e w he=>by
   cases e with
   | returned u=>exact hk _ _ he
   | panicked _=>exact he.elim
   | outgrown=>exact he.elim)⟩
 ·exact h.elim
theorem qF{P:Program}{o:Oper}{a a':Act}{w:World}{R:Value -> World -> Prop}(he:execOp a'.eval o=execOp a.eval o)(h:di P o a w R):di P o a' w R:=by
 unfold di at *;rw[he];exact h
section
variable {P:Program} {ops:Array Oper} {Q:Exit -> Act -> World -> Prop} {F:HL} {w0:World} {hards:List Nat} {Rd:HL}
def OPJ(P:Program)(ops:Array Oper)(F:HL)(w0:World)(hards:List Nat)(Rd:HL)(i:Nat)(a:Act)(H:HL)(K:Act -> HL -> Prop):Prop:=match ops[i]? with
 | none=>False
 | some o=>if Region.wanted o (yielded ops a.tmps)=true then
   ∀w,Rel (H++F) w -> Below 0 w0 w -> di P o a w λ u w'=>∃H',((i ∉ hards -> ∃X,H'=X++H) /\ (i∈hards -> ∀x∈Rd,x∈H')) /\ K (a.put o.dst u) H' /\ Rel (H'++F) w' /\ Below 0 w0 w'
  else K (a.put o.dst undef) H
def Rg(Q:Exit -> Act -> World -> Prop)(F:HL)(w0:World)(a:Act)(H:HL):Prop:=∀w,Rel (H++F) w -> Below 0 w0 w -> Q .normal a w
def JJ(P:Program)(ops:Array Oper)(Q:Exit -> Act -> World -> Prop)(F:HL)(w0:World)(hards:List Nat)(Rd:HL):Nat -> Array Bool -> Act -> HL -> Prop
 | 0,listed,a,H=>Region.ready .any ops listed=[] /\ Rg Q F w0 a H
 | fuel+1,listed,a,H=>(Region.ready .any ops listed=[] -> Rg Q F w0 a H) /\
  ∀i∈Region.ready .any ops listed,OPJ P ops F w0 hards Rd i a H (JJ P ops Q F w0 hards Rd fuel (listed.setIfInBounds i true))
def VO(P:Program)(ops:Array Oper)(F:HL)(w0:World)(o:Oper)(v:Value)(a:Act)(H:HL):Prop :=
 (Region.wanted o (yielded ops a.tmps)=true /\ ∀X w,Rel (X++(H++F)) w -> Below 0 w0 w -> di P o a w λ u w'=>u=v /\ Rel (X++(H++F)) w' /\ Below 0 w0 w') \/
 (Region.wanted o (yielded ops a.tmps)=false /\ v=undef)
theorem VO.same{o:Oper}{v:Value}{a a':Act}{H:HL}(h:VO P ops F w0 o v a H)(he:execOp a'.eval o=execOp a.eval o)(hw:Region.wanted o (yielded ops a'.tmps)=Region.wanted o (yielded ops a.tmps)):VO P ops F w0 o v a' H:=by
 rcases h with ⟨h1,h2⟩|⟨h1,h2⟩
 ·exact .inl ⟨hw.trans h1,λ X w hR hB=>qF he (h2 X w hR hB)⟩
 ·exact .inr ⟨hw.trans h1,h2⟩
theorem VO.more{o:Oper}{v:Value}{a:Act}{H:HL}(h:VO P ops F w0 o v a H)(X:HL):VO P ops F w0 o v a (X++H):=by
 rcases h with ⟨h1,h2⟩|⟨h1,h2⟩
 ·refine .inl ⟨h1,λ Y w hR hB=>?_⟩;have e:Y++(X++H++F)=(Y++X)++(H++F):=by simp
  rw[e] at hR ⊢;exact h2 (Y++X) w hR hB
 ·exact .inr ⟨h1,h2⟩
theorem VO.opj{i:Nat}{o:Oper}{v:Value}{a:Act}{H:HL}(TP:∀x∈Rd,x∈H)(hi:ops[i]?=some o)(h:VO P ops F w0 o v a H){K:Act -> HL -> Prop}(hk:K (a.put o.dst v) H):OPJ P ops F w0 hards Rd i a H K:=by
 unfold OPJ;rw[hi];simp only;rcases h with ⟨h1,h2⟩|⟨h1,rfl⟩
 ·rw[if_pos h1];intro w hR hB;refine fc (h2 [] w hR hB) ?_;rintro u w' ⟨rfl,h3,h4⟩;exact⟨H,⟨λ _=>⟨[],rfl⟩,λ _=>TP⟩,hk,h3,h4⟩
 ·rw[if_neg (by rw[h1];simp)];exact hk
def comes(ops:Array Oper)(i:Nat):Nat -> Nat -> Bool
 | 0,_=>false
 | f+1,m=>match ops[m]? with
  | some o=>o.after.toList.any λ e=>Region.binds .any e && (e.on == i || comes ops i f e.on)
  | none=>false
def Closed(ops:Array Oper)(listed:Array Bool):Prop :=
 ∀j oj,ops[j]?=some oj -> listed.getD j false=true -> ∀e∈oj.after,Region.binds .any e=true -> listed.getD e.on false=true
theorem Closed.set{listed:Array Bool}{j:Nat}(h:Closed ops listed)(hj:j∈Region.ready .any ops listed):Closed ops (listed.setIfInBounds j true):=by
 obtain⟨_,oj,ZD,H_⟩:=mem_ready.1 hj;intro k ok hk hl e he hb
 by_cases hjk:j=k
 ·subst hjk;obtain rfl:ok=oj:=Option.some.inj (hk.symm.trans ZD);exact getD_set_true (H_ e he hb)
 ·rw[getD_set_ne false hjk] at hl;exact getD_set_true (h k ok hk hl e he hb)
theorem Closed.comes{listed:Array Bool}(h:Closed ops listed){i:Nat}(hi:listed.getD i false=false):∀ (f m:Nat),comes ops i f m=true -> listed.getD m false=false
 | 0,m,ha=>by simp[YtdppjkjbghbnjaaGreatDoor.comes] at ha
 | f+1,m,ha=>by
  rw[YtdppjkjbghbnjaaGreatDoor.comes] at ha;cases hm:ops[m]? with
  | none=>rw[hm] at ha;cases ha
  | some o =>
   rw[hm] at ha;obtain⟨e,he,hb⟩:=List.any_eq_true.1 ha;simp only[aa0,Bool.or_eq_true,beq_iff_eq] at hb;cases hl:listed.getD m false with
   | false=>rfl
   | true =>
    have h1:=h m o hm hl e (by simpa using he) hb.1;rcases hb.2 with h2|h2
    ·rw[h2,hi] at h1;cases h1
    ·rw[h.comes hi f e.on h2] at h1;cases h1
theorem qG{listed:Array Bool}{i:Nat}(h:listed.getD i true=false):listed.getD i false=false:=by
 rcases aaZ i listed.size with h'|h'
 ·simp[h'] at h ⊢;exact h
 ·simp[Array.getElem?_eq_none h'] at h
theorem FR{i:Nat}{oi:Oper}{v:Value}(hi:ops[i]?=some oi)(Zq:∀ (j:Nat) (o:Oper) cs b,ops[j]?=some o -> o.op ≠ .select cs b) :
  ∀ (fuel:Nat) (listed:Array Bool) (a:Act) (H:HL),((∀m∈hards,comes ops i ops.size m=true) \/ ∀H',(∀x∈Rd,x∈H') -> VO P ops F w0 oi v a H') -> (∀x∈Rd,x∈H) -> Closed ops listed ->
   (∀j oj,ops[j]?=some oj -> j≠i -> listed.getD j true=false -> (∀e∈oj.after,Region.binds .any e=true -> e.on≠i) -> oi.apart ops oj=true) ->
   i∈Region.ready .any ops listed -> VO P ops F w0 oi v a H ->
   JJ P ops Q F w0 hards Rd fuel (listed.setIfInBounds i true) (a.put oi.dst v) H -> JJ P ops Q F w0 hards Rd (fuel+1) listed a H:=by
 intro fuel
 induction fuel with
 | zero =>
  intro listed a H _ TP _ _ hr hy Tk;refine⟨λ h=>(by rw[h] at hr;cases hr),λ j hj=>?_⟩
  by_cases Xz:j=i
  ·subst Xz;exact hy.opj TP hi Tk
  ·have:=ready_mono hj Xz;rw[Tk.1] at this;cases this
 | succ fuel ih =>
  intro listed a H hh TP hcl YI hr hy hJ;refine⟨λ h=>(by rw[h] at hr;cases hr),λ j hj=>?_⟩
  by_cases Xz:j=i
  ·subst Xz;exact hy.opj TP hi hJ
  ·have h1:=hJ.2 j (ready_mono hj Xz);obtain⟨ZK,oj,ZD,H_⟩:=mem_ready.1 hj;have acn:=(mem_ready.1 hr).1;have afn:∀e∈oj.after,Region.binds .any e=true -> e.on≠i:=λ e he hb heq=>by
    have h1:=H_ e he hb;rw[heq,qG acn] at h1;cases h1
   obtain⟨p1,p2,p3⟩:=Oper.apart_spec (YI j oj ZD Xz ZK afn);have ZV:=hcl.set hj;have acm:(listed.setIfInBounds j true).getD i false=false:=by rw[getD_set_ne false Xz];exact qG acn
   have afF:j<listed.size:=by
    rcases aaZ j listed.size with h|h
    ·exact h
    ·simp[Array.getElem?_eq_none h] at ZK
   have hjn:(∀m∈hards,comes ops i ops.size m=true) -> j ∉ hards:=λ hh hm=>by
    have h2:=ZV.comes acm _ j (hh j hm);simp[afF] at h2
   have WQ:∀k ok,ops[k]?=some ok -> k≠i -> (listed.setIfInBounds j true).getD k true=false ->
     (∀e∈ok.after,Region.binds .any e=true -> e.on≠i) -> oi.apart ops ok=true:=λ k ok hk hki hun TC=>by
    refine YI k ok hk hki ?_ TC
    by_cases hjk:j=k
    ·subst hjk;exact ZK
    ·rw[getD_set_ne true hjk] at hun;exact hun
   have Xv:=ready_mono hr (Ne.symm Xz);unfold OPJ at h1 ⊢;rw[ZD] at h1 ⊢;simp only at h1 ⊢;rw[wanted_put oj a oi.dst v p1] at h1;have abx:∀u,VO P ops F w0 oi v (a.put oj.dst u) H:=λ u=>hy.same (execOp_put oi (λ cs b=>Zq i oi cs b hi) a oj.dst u p3) (wanted_put oi a oj.dst u p3);have Wv:(∀H',(∀x∈Rd,x∈H') -> VO P ops F w0 oi v a H') -> ∀u H',(∀x∈Rd,x∈H') -> VO P ops F w0 oi v (a.put oj.dst u) H':=λ hh u H' hr=>(hh H' hr).same (execOp_put oi (λ cs b=>Zq i oi cs b hi) a oj.dst u p3) (wanted_put oi a oj.dst u p3)
   by_cases hw:Region.wanted oj (yielded ops a.tmps)=true
   ·rw[if_pos hw] at h1 ⊢;intro w hR hB;refine fc (qF (execOp_put oj (λ cs b=>Zq j oj cs b ZD) a oi.dst v p1).symm (h1 w hR hB)) ?_;rintro u w' ⟨H',hx,h2,h3,h4⟩;refine⟨H',hx,?_,h3,h4⟩;have ac2:∀x∈Rd,x∈H':=by
     by_cases hjh:j∈hards
     ·exact hx.2 hjh
     ·obtain⟨X,rfl⟩:=hx.1 hjh;exact λ x hx=>aay _ (TP x hx)
    have hy':VO P ops F w0 oi v (a.put oj.dst u) H':=by
     rcases hh with hh|hh
     ·obtain⟨X,rfl⟩:=hx.1 (hjn hh);exact(abx u).more X
     ·exact Wv hh u H' ac2
    refine ih _ _ _ (hh.imp id λ hh=>Wv hh u) ac2 ZV WQ Xv hy' ?_;rw[Array.setIfInBounds_comm _ _ Xz,<- Act.put_comm a v u p2];exact h2
   ·rw[if_neg hw] at h1 ⊢;refine ih _ _ _ (hh.imp id λ hh=>Wv hh undef) TP ZV WQ Xv (abx undef) ?_;rw[Array.setIfInBounds_comm _ _ Xz,<- Act.put_comm a v undef p2];exact h1
end
def jF(ops:List Oper)(listed:List Bool):List Nat :=
 (List.range ops.length).filter λ i=>!(listed.getD i true) && ((ops[i]?).map (·.after.toList.all λ e=>!Region.binds .any e || listed.getD e.on false)).getD false
theorem lN(ops:Array Oper)(listed:List Bool):Region.ready .any ops ⟨listed⟩=jF ops.toList listed:=by
 unfold Region.ready jF;rw[Array.length_toList];apply List.filter_congr;intro i _;simp only[Array.getD_eq_getD_getElem?,List.getElem?_toArray,aaI,Array.getElem?_toList];congr 1;cases ops[i]? with
 | none=>rfl
 | some o=>simp
def O7(ops:List Oper)(hards:List Nat)(listed:List Bool)(i:Nat):Bool :=
 (jF ops listed).contains i && Region.free .any ⟨ops⟩ ⟨listed⟩ i && hards.all (λ m=>comes ⟨ops⟩ i ops.length m)
def Pf(ops:List Oper)(listed:List Bool)(i:Nat):Bool :=
 (jF ops listed).contains i && Region.free .any ⟨ops⟩ ⟨listed⟩ i
def TD(P:Program)(N:Nat)(D:List Deferred)(F:HL)(w0:World)(ops:Array Oper)(hards:List Nat)(Rd:HL)(fuel:Nat)(listed:List Bool)(L:FL)(H:HL)(Q:Exit -> Act -> World -> Prop):Prop :=
 Closed ops ⟨listed⟩ -> ∀a,Fm N D L a -> JJ P ops Q F w0 hards Rd fuel ⟨listed⟩ a H
section
variable {r:Option Nat} {P:Program} {N:Nat} {D:List Deferred} {F:HL} {w0:World} {ops:Array Oper} {hards:List Nat} {Rd:HL} {fuel:Nat} {listed:List Bool} {L:FL} {H:HL} {Q:Exit -> Act -> World -> Prop}
theorem wz(n:Nat):Closed ops ⟨List.replicate n false⟩:=by
 intro j oj _ hl;exfalso;rcases aaZ j n with h|h
 ·simp[h] at hl
 ·simp[h] at hl
def qg(ops:Array Oper):Bool:=ops.all λ o=>match o.op with | .defer _=>false|_=>true
theorem uK(h:qg ops=true)(j:Nat)(o:Oper)(c:Call)(ho:ops[j]?=some o):o.op ≠ .defer c:=by
 intro heq;have:=Array.all_eq_true_iff_forall_mem.1 h o (Array.mem_of_getElem? ho);simp[heq] at this
theorem jG(hd:qg ops=true):∀ (fuel:Nat) (listed:Array Bool) (a:Act) (H:HL) (w:World),JJ P ops (NoPanic Q) F w0 hards Rd fuel listed a H -> Rel (H++F) w -> Below 0 w0 w -> wpAnyIn (Wr r) 0 P .any ops Q fuel listed a w
 | 0,_,a,H,w,h,hR,hB=>⟨h.1,h.2 w hR hB⟩
 | fuel+1,listed,a,H,w,h,hR,hB=>by
  refine⟨λ hr=>h.1 hr w hR hB,λ i hi=>?_⟩;have h1:=h.2 i hi;unfold OPJ at h1;unfold wpOpIn;cases ho:ops[i]? with
  | none=>rw[ho] at h1;exact h1.elim
  | some o =>
   rw[ho] at h1;simp only at h1 ⊢
   by_cases hw:Region.wanted o (yielded ops a.tmps)=true
   ·rw[if_pos hw] at h1 ⊢;refine⟨λ _ _=>trivial,eF (λ c=>uK hd i o c ho) (h1 w hR hB) ?_⟩;rintro u w' ⟨H',_,h2,h3,h4⟩;exact jG hd fuel _ _ H' w' h2 h3 h4
   ·rw[if_neg hw] at h1 ⊢;exact⟨λ _ _=>trivial,jG hd fuel _ _ H w h1 hR hB⟩
theorem TR.draw{id:Nat}(hards:List Nat)(Rd:HL)(hm:P.follows .mixedOrders=true)(hs:Region.noSelect ops=true)(hd:qg ops=true)(h:TD P N D F w0 ops hards Rd ops.size (List.replicate ops.toList.length false) L H (NoPanic Q)):TR r P N D F w0 L H (.region id ops true) Q:=by
 intro a w h1 h2 h3;refine wpIn_region_any hm ?_;have h4:=h (wz _) a h1;have e:Array.replicate ops.size false=⟨List.replicate ops.toList.length false⟩:=by simp
 rw[e];refine jG hd (hards:=hards) (Rd:=Rd) _ _ _ H _ h4 (h2.world rfl) ⟨h3.os,h3.tape,h3.output,h3.size,λ k hk=>by omega⟩
theorem TD.fin(hr:jF ops.toList listed=[])(h:EX N D F w0 L H Q .normal):TD P N D F w0 ops hards Rd fuel listed L H Q:=by
 intro _ a hF;have Xv:=(lN ops listed).trans hr;have hx:Rg Q F w0 a H:=λ w hR hB=>h a w hF hR hB;cases fuel with
 | zero=>exact⟨Xv,hx⟩
 | succ n=>exact⟨λ _=>hx,λ i hi=>by rw[Xv] at hi;cases hi⟩
theorem Pg(h:EX N D F w0 L H Q .normal):EX N D F w0 L H (NoPanic Q) .normal:=h
def sD(P:Program)(n0 N:Nat)(ops:List Oper)(hards:List Nat)(Rd:HL):List Nat -> List Bool -> FL -> SS -> Option (List Bool × FL × SS)
 | [],listed,L,s=>some (listed,L,s)
 | i::is,listed,L,s=>match Pf ops listed i,ops[i]? with
  | true,some o=>match jl ops o L s with
   | none=>none
   | some (false,s)=>match eh N o.dst undef L with
    | some L=>sD P n0 N ops hards Rd is (bm listed i true) L s
    | none=>none
   | some (true,s)=>match iM o.op L with
    | false=>none
    | true=>match O7 ops hards listed i with
     | true=>match ev P n0 o (eZ L) s with
      | some (.value v,s)=>match eh N o.dst v L with
       | some L=>sD P n0 N ops hards Rd is (bm listed i true) L s
       | none=>none
      | _=>none
     | false=>match ev P n0 o (eZ L) { s with h:=[],r:=Rd++s.r } with
      | some (.value v,s')=>match eh N o.dst v L with
       | some L=>sD P n0 N ops hards Rd is (bm listed i true) L { s' with h:=s.h,r:=s.r }
       | none=>none
      | _=>none
  | _,_=>none
theorem FS{i:Nat}(h:Pf ops.toList listed i=true):i∈Region.ready .any ops ⟨listed⟩ /\ Region.free .any ops ⟨listed⟩ i=true:=by
 unfold Pf at h;simp only[aa0,List.contains_iff_mem] at h;exact⟨by rw[lN];exact h.1,h.2⟩
theorem FT{i:Nat}(h:O7 ops.toList hards listed i=true):i∈Region.ready .any ops ⟨listed⟩ /\ Region.free .any ops ⟨listed⟩ i=true /\ ∀m∈hards,comes ops i ops.size m=true:=by
 unfold O7 at h;simp only[aa0,List.contains_iff_mem,List.all_eq_true] at h;obtain⟨⟨h1,h2⟩,h3⟩:=h;exact⟨by rw[lN];exact h1,h2,λ m hm=>by simpa using h3 m hm⟩
theorem iQ{n0:Nat}{l:List Oper}:∀ (is:List Nat) (b b':List Bool) (L L':FL) (s s':SS),sD P n0 N l hards Rd is b L s=some (b',L',s') -> (∀p∈s.eq,p∈s'.eq) /\ (∀p∈s.ob,p∈s'.ob)
 | [],b,b',L,L',s,s',h=>by rw[sD] at h;cases h;exact⟨λ _ h=>h,λ _ h=>h⟩
 | i::is,b,b',L,L',s,s',h=>by
  rw[sD] at h;split at h
  case h_2=>cases h
  split at h
  ·cases h
  ·rename_i hw;split at h
   case h_2=>cases h
   obtain⟨a1,a2,_⟩:=bI hw;obtain⟨b1,b2⟩:=iQ is _ _ _ _ _ _ h;exact⟨λ p hp=>b1 p (a1 p hp),λ p hp=>b2 p (a2 p hp)⟩
  ·rename_i hw;split at h
   ·cases h
   split at h
   all_goals
    split at h
    case h_2=>cases h
    rename_i he;split at h
    case h_2=>cases h
    obtain⟨a1,a2,_⟩:=bI hw;obtain⟨c1,c2,_⟩:=dG he;obtain⟨b1,b2⟩:=iQ is _ _ _ _ _ _ h;exact⟨λ p hp=>b1 p (c1 p (a1 p hp)),λ p hp=>b2 p (c2 p (a2 p hp))⟩
theorem Ph{n0:Nat}{o:Oper}{ρ:Operand -> Value}{s s':SS}{x:Next}(h:ev P n0 o ρ s=some (x,s'))(hw:s.wr=false):s'.h=s.h:=by
 unfold ev at h
 repeat' split at h
 all_goals first
  | exact(BG _ _ _ _ h hw :)
  | (cases h;done)
  | (cases h;rfl)
  | (rename_i e;rw[hw] at e;cases e)
theorem nF(i:Nat):(⟨listed⟩:Array Bool).setIfInBounds i true=⟨bm listed i true⟩:=by
 rw[iL];simp
theorem BK{i:Nat}{o:Oper}{v:Value}{L1:FL}(hs:Region.noSelect ops=true)(g_:Pf ops.toList listed i=true)(ho:ops[i]?=some o)(hp:∀a,Fm N D L a -> Fm N D L1 (a.put o.dst v))(hv:∀a,Fm N D L a -> VO P ops F w0 o v a H)
  (TP:∀x∈Rd,x∈H) (hh:O7 ops.toList hards listed i=true \/ ∀a,Fm N D L a -> ∀H',(∀x∈Rd,x∈H') -> VO P ops F w0 o v a H')
  (h:TD P N D F w0 ops hards Rd fuel (bm listed i true) L1 H Q):TD P N D F w0 ops hards Rd (fuel+1) listed L H Q:=by
 intro hcl a hF;obtain⟨h1,h2⟩:=FS g_;refine FR ho (Region.noSelect_spec hs) fuel _ a H (hh.imp (λ hh=>(FT hh).2.2) (λ hh=>hh a hF)) TP hcl (Region.free_spec ho h2) h1 (hv a hF) ?_;rw[nF];refine h ?_ _ (hp a hF);rw[<- nF];exact hcl.set h1
theorem zB{X H F:HL}{w:World}(aT:Rel (X++(H++F)) w):Rel (H++(X++F)) w:=aT.perm (by
 rw[<- aaH,<- aaH];exact aaX F aaW)
theorem jn{Rr:HL}(hs:Region.noSelect ops=true)(TP:∀x∈Rd,x∈H)(hR:∀y∈Rr,y∈F):∀ (is:List Nat) (b b':List Bool) (L L':FL) (s s':SS),sD P 0 N ops.toList hards Rd is b L s=some (b',L',s') ->
  s.h=H -> s.r=Rr -> s.wr=false -> (∀p∈s'.eq,p.1=p.2) -> (∀p∈s'.ob,p) ->
  TD P N D F w0 ops hards Rd fuel b' L' H Q -> TD P N D F w0 ops hards Rd (fuel+is.length) b L H Q
 | [],b,b',L,L',s,s',h,_,_,_,_,_,hk=>by
  rw[sD] at h;cases h;exact hk
 | i::is,b,b',L,L',s,s',h,hh,hr,hw,heq,iN,hk=>by
  rw[sD] at h;split at h
  case h_2=>cases h
  rename_i o ZC ho;have BY:ops[i]?=some o:=by simpa using ho
  split at h
  ·cases h
  ·rename_i s1 U1;split at h
   case h_2=>cases h
   rename_i L1 hp;obtain⟨a1,a2,a3,a4⟩:=bI U1;obtain⟨b1,b2⟩:=iQ is _ _ _ _ _ _ h;have XO:∀a,Fm N D L a -> Region.wanted o (yielded ops a.tmps)=false /\ s1.h=s.h /\ s1.cnt=s.cnt:=λ a hF=>cj U1 hF (λ p hp=>iN p (b2 p hp));refine λ hcl a hF=>?_;obtain⟨c1,c2,c3⟩:=XO a hF;exact(BK (v:=undef) hs ZC BY (λ a hF=>hF.put hp) (λ a hF=>.inr ⟨(XO a hF).1,rfl⟩) TP (.inr λ a hF H' _=>.inr ⟨(XO a hF).1,rfl⟩)
    (jn hs TP hR is _ b' L1 L' s1 s' h (by rw[c2];exact hh) (by rw[a3];exact hr) (a4.trans hw) heq iN hk):TD P N D F w0 ops hards Rd (fuel+is.length+1) b L H Q) hcl a hF
  ·rename_i s1 U1;split at h
   ·cases h
   rename_i g_;obtain⟨a1,a2,a3,a4⟩:=bI U1;split at h
   ·rename_i afj;split at h
    case h_2=>cases h
    rename_i v s2 he;split at h
    case h_2=>cases h
    rename_i L1 hp;obtain⟨d1,d2,d3,d4⟩:=dG he;obtain⟨b1,b2⟩:=iQ is _ _ _ _ _ _ h;have XO:∀a,Fm N D L a -> Region.wanted o (yielded ops a.tmps)=true /\ s1.h=s.h /\ s1.cnt=s.cnt:=λ a hF=>cj U1 hF (λ p hp=>iN p (b2 p (d2 p hp)));refine λ hcl a hF=>?_;obtain⟨c1,c2,c3⟩:=XO a hF;have SI:=Ph he (a4.trans hw);refine(BK (v:=v) hs ZC BY (λ a hF=>hF.put hp) (λ a Yi=>.inl ⟨(XO a Yi).1,λ X w aT hB=>?_⟩) TP (.inl afj)
     (jn hs TP hR is _ b' L1 L' s2 s' h (by rw[SI,c2];exact hh) (by rw[d3,a3];exact hr) (d4.trans (a4.trans hw)) heq iN hk):TD P N D F w0 ops hards Rd (fuel+is.length+1) b L H Q) hcl a hF
    have SF:=zB aT;have V9:s1.h=H:=by rw[c2];exact hh
    obtain⟨w1,e1,e2,e3,e4,e5⟩:=gJ (w:=w) (F:=X++F) he (λ p hp=>heq p (b1 p hp)) (λ p hp=>iN p (b2 p hp)) (by rw[V9];exact SF) (by rw[a3,hr];exact λ y hy=>aay _ (hR y hy)) (λ e=>by rw[a4,hw] at e;cases e);obtain rfl:=e5 (a4.trans hw);unfold di;rw[Yi.exec g_,e1];exact⟨rfl,aT,hB⟩
   ·split at h
    case h_2=>cases h
    rename_i v s2 he;split at h
    case h_2=>cases h
    rename_i L1 hp;obtain⟨d1,d2,d3,d4⟩:=dG he;obtain⟨b1,b2⟩:=iQ is _ _ _ _ _ _ h;have XO:∀a,Fm N D L a -> Region.wanted o (yielded ops a.tmps)=true /\ s1.h=s.h /\ s1.cnt=s.cnt:=λ a hF=>cj U1 hF (λ p hp=>iN p (b2 p (d2 p hp)));have hvo:∀a,Fm N D L a -> ∀H',(∀x∈Rd,x∈H') -> VO P ops F w0 o v a H':=λ a Yi H' SW=>.inl ⟨(XO a Yi).1,λ X w aT hB=>by
     obtain⟨w1,e1,e2,e3,e4,e5⟩:=gJ (w:=w) (F:=X++(H'++F)) he (λ p hp=>heq p (b1 p hp)) (λ p hp=>iN p (b2 p hp)) aT (λ y hy=>by
      rcases List.mem_append.1 hy with hy|hy
      ·exact aay _ (aaA _ (SW y hy))
      ·exact aay _ (aay _ (hR y (by rw[<- hr,<- a3];exact hy)))) (λ e=>by rw[a4,hw] at e;cases e)
     obtain rfl:=e5 (a4.trans hw);unfold di;rw[Yi.exec g_,e1];exact⟨rfl,aT,hB⟩⟩
    refine λ hcl a hF=>?_;obtain⟨c1,c2,c3⟩:=XO a hF;exact(BK (v:=v) hs ZC BY (λ a hF=>hF.put hp) (λ a Yi=>hvo a Yi H TP) TP (.inr hvo)
     (jn hs TP hR is _ b' L1 L' _ s' h (by rw[<- hh,<- c2]) (by rw[<- hr,<- a3]) (d4.trans (a4.trans hw)) heq iN hk):TD P N D F w0 ops hards Rd (fuel+is.length+1) b L H Q) hcl a hF
theorem s7{H Rd:HL}(ix:List Nat)(h:ix.filterMap (H[·]?)=Rd):∀x∈Rd,x∈H:=by
 subst h;intro x hx;obtain⟨i,_,hi⟩:=List.mem_filterMap.1 hx;exact List.mem_of_getElem? hi
theorem TD.all(rs:List Nat)(hr:jF ops.toList listed=rs)(AS:rs≠[])(Sk:Nat)(hf:fuel=Sk+1)
  (h:∀i∈rs,∀a,Fm N D L a -> Closed ops ⟨bm listed i true⟩ -> OPJ P ops F w0 hards Rd i a H (JJ P ops Q F w0 hards Rd Sk ⟨bm listed i true⟩)):TD P N D F w0 ops hards Rd fuel listed L H Q:=by
 subst hf;intro hcl a hF;have Xv:=(lN ops listed).trans hr;refine⟨λ e=>absurd (Xv.symm.trans e) AS,λ i hi=>?_⟩;rw[nF];refine h i (Xv ▸ hi) a hF ?_;rw[<- nF];exact hcl.set hi
theorem zC{i:Nat}{R:HL}{hints:List Hint}{dst:Option Tmp}{f:FuncId}{args:Array Value}{H1:HL}{E:List Nat}{Ob:List Prop}{o:Oper}(ho:ops.toList[i]?=some o){Hp Hr:HL}{Rv:Value -> HL -> Prop}
  (h:∀n0,nE P n0 N ops.toList i L H R hints=some (dst,f,args,H1,E,E,Ob)) (hR:∀y∈R,y∈F) (iN:AllP Ob) (oF:(Hp++Hr).Perm H1) (hc:Sp P f args Hp (Hr++F) Rv) (a:Act) (hF:Fm N D L a) :
  Region.wanted o (yielded ops a.tmps)=true /\ ∀w,Rel (H++F) w -> Below 0 w0 w -> di P o a w λ u w'=>∃H',Rv u H' /\ Rel ((H'++Hr)++F) w' /\ Below 0 w w':=by
 have key:∀n0,∃s s',jl ops.toList o L ⟨H,R,hints,0,[],[],true⟩=some (true,s) /\ iM o.op L=true /\ ev P n0 o (eZ L) s=some (.enter f args,s') /\ s'.h=H1 /\ s'.eq.map (·.1)=E /\ s'.eq.map (·.2)=E /\ s'.ob=Ob:=λ n0=>by
  obtain⟨o',s,s',BY,U1,g_,SH,_,hh,e1,e2,e3⟩:=iP (h n0);obtain rfl:o'=o:=Option.some.inj (BY.symm.trans ho);exact⟨s,s',U1,g_,SH,hh,e1,e2,e3⟩
 obtain⟨s,s',U1,g_,SH,hh,e1,e2,e3⟩:=key 0;obtain⟨d1,d2,d3,d4⟩:=dG SH;refine⟨(cj U1 hF (λ p hp=>AllP.mem iN p (by rw[<- e3];exact d2 p hp))).1,λ w aT hB=>?_⟩;obtain⟨s,s',U1,g_,SH,hh,e1,e2,e3⟩:=key w.heap.size;obtain⟨a1,a2,a3,a4⟩:=bI U1;obtain⟨d1,d2,d3,d4⟩:=dG SH;have SJ:∀p∈s'.ob,p:=by rw[e3];exact AllP.mem iN
 obtain⟨c1,c2,c3⟩:=cj U1 hF (λ p hp=>SJ p (d2 p hp));obtain⟨w1,r1,r2,r3,r4,r5⟩:=gJ (w:=w) (F:=F) SH (fU e1 e2) SJ (by rw[c2];exact aT) (by rw[a3];exact hR) (λ _=>by rw[c3];rfl);unfold di;rw[hF.exec g_,r1];rw[hh] at r2;refine(hc w1 (by rw[<- aaH];exact r2.perm (oF.append_right F))).mono ?_;rintro e w2 ⟨v,H',rfl,hv,TE,Vy⟩;exact⟨H',hv,by rw[aaH];exact TE,r3.trans Vy⟩
theorem TD.one(i:Nat)(hr:jF ops.toList listed=[i])(Sk:Nat)(hf:fuel=Sk+1)
  (h:∀a,Fm N D L a -> Closed ops ⟨bm listed i true⟩ -> OPJ P ops F w0 hards Rd i a H (JJ P ops Q F w0 hards Rd Sk ⟨bm listed i true⟩)):TD P N D F w0 ops hards Rd fuel listed L H Q :=
 TD.all [i] hr (by simp) Sk hf λ j hj a hF hcl=>by
  obtain rfl:j=i:=by simpa using hj
  exact h a hF hcl
theorem OPJ.perm{hards:List Nat}{Rd:HL}{i:Nat}{a:Act}{H H':HL}{K K':Act -> HL -> Prop}(hK:∀a H1 H2,H1.Perm H2 -> K a H1 -> K' a H2)(hp:H.Perm H')(h:OPJ P ops F w0 hards Rd i a H K):OPJ P ops F w0 hards Rd i a H' K':=by
 unfold OPJ at h ⊢;cases ho:ops[i]? with
 | none=>rw[ho] at h;exact h
 | some o =>
  rw[ho] at h;simp only at h ⊢;split
  ·rename_i hw;rw[if_pos hw] at h;intro w hR hB;refine fc (h w (hR.perm (hp.append_right F)) hB) ?_;rintro u w' ⟨H1,⟨s1,s2⟩,k1,k2,k3⟩
   by_cases hi:i∈hards
   ·exact⟨H1,⟨λ e=>absurd hi e,s2⟩,hK _ _ _ (List.Perm.refl _) k1,k2,k3⟩
   ·obtain⟨X,rfl⟩:=s1 hi;have hpx:(X++H).Perm (X++H'):=hp.append_left X;exact⟨X++H',⟨λ _=>⟨X,rfl⟩,λ e=>absurd e hi⟩,hK _ _ _ hpx k1,k2.perm (hpx.symm.append_right F),k3⟩
  ·rename_i hw;rw[if_neg hw] at h;exact hK _ _ _ hp h
theorem JJ.perm{hards:List Nat}{Rd:HL}:∀ (fuel:Nat) (listed:Array Bool) (a:Act) (H H':HL),H.Perm H' -> JJ P ops Q F w0 hards Rd fuel listed a H -> JJ P ops Q F w0 hards Rd fuel listed a H'
 | 0,listed,a,H,H',hp,h=>⟨h.1,λ w hR hB=>h.2 w (hR.perm (hp.append_right F)) hB⟩
 | fuel+1,listed,a,H,H',hp,h=>⟨λ e w hR hB=>h.1 e w (hR.perm (hp.append_right F)) hB,λ i hi=>OPJ.perm (λ a H1 H2 hp h=>JJ.perm fuel _ a H1 H2 hp h) hp (h.2 i hi)⟩
theorem Nd(i j:Nat)(hr:jF ops.toList listed=[i,j])(Sk:Nat)(hf:fuel=Sk+1)
  (h1:∀a,Fm N D L a -> Closed ops ⟨bm listed i true⟩ -> OPJ P ops F w0 hards Rd i a H (JJ P ops Q F w0 hards Rd Sk ⟨bm listed i true⟩))
  (h2:∀a,Fm N D L a -> Closed ops ⟨bm listed j true⟩ -> OPJ P ops F w0 hards Rd j a H (JJ P ops Q F w0 hards Rd Sk ⟨bm listed j true⟩)):TD P N D F w0 ops hards Rd fuel listed L H Q :=
 TD.all [i,j] hr (by simp) Sk hf λ m hm a hF hcl=>by
  have:m=i \/ m=j:=by simpa using hm
  rcases this with rfl|rfl
  ·exact h1 a hF hcl
  ·exact h2 a hF hcl
end
end Go.Proofs.YtdppjkjbghbnjaaGreatDoor
