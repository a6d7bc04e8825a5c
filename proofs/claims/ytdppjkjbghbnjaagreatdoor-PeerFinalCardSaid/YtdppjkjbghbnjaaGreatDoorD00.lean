import Derived.WalkKit
import Derived.OrdersHeld
import Derived.Deep.RegionHeld3
import Derived.KernelRfl
import Derived.Laws.StructEq
set_option maxHeartbeats 4000000
set_option maxRecDepth 100000
set_option linter.all false
namespace Go.Proofs.YtdppjkjbghbnjaaGreatDoor
open IntKind
open Go.RowKit
def aav:=@List.mem_append_right
def aaw:=@List.mem_append_left
def aax:=@List.mem_cons_self
def aaA:=@List.mem_cons_of_mem
def aaC:=@List.append_assoc
def aaJ:=@List.getD_eq_getElem?_getD
def aaN:=@Nat.le_of_ble_eq_true
def aa0:=@Nat.le_refl
def aa9:=@Nat.zero_le
def abi:=@List.length_append
def abk:=@List.length_take
def abq:=@List.length_drop
def abr:=@List.length_cons
def abt:=@List.getElem?_eq_getElem
def abD:=@List.getElem?_append_left
def abG:=@List.getElem?_append_right
def abL:=@List.perm_append_comm
def abO:=@List.Perm.append_right
def abR:=@List.eq_nil_of_length_eq_zero
def abX:=@Nat.lt_or_ge
def ab1:=@Bool.and_eq_true
def ab8:=@Nat.eq_of_beq_eq_true
def acb:=@List.flatten_cons
def acd:=@Result.andThen_ok
def ace:=@Sem.run_bind
def aci:=@of_decide_eq_true
def ack:=@List.getElem?_drop
def acm:=@List.getElem?_take
def acn:=@List.take_append_drop
def aco:=@decide_eq_false
def acr:=@decide_eq_true
inductive Blk where
 | lit (cs:List Value) (ty:TypeId) (fz:Nat × Nat)
 | rows (w n:Nat) (g:Nat -> Nat -> Value) (ty:TypeId) (fz:Nat × Nat)
 | obj (o:Obj)
def bD(w:Nat)(g:Nat -> Nat -> Value):Nat -> List Value
 | 0=>[]
 | n+1=>bD w g n++(List.range w).map (g n)
def Blk.den:Blk -> Obj
 | .lit cs ty fz=>.cells ⟨cs⟩ ty fz
 | .rows w n g ty fz=>.cells ⟨bD w g n⟩ ty fz
 | .obj o=>o
theorem cU(w:Nat)(g:Nat -> Nat -> Value)(n:Nat):(bD w g n).length=n*w:=by
 induction n with
 | zero=>simp[bD]
 | succ n ih=>simp[bD,ih,Nat.succ_mul]
theorem mJ{w:Nat}{g:Nat -> Nat -> Value}{n i k:Nat}(hi:i<n)(hk:k<w):(bD w g n)[i*w+k]?=some (g i k):=by
 induction n with
 | zero=>omega
 | succ n ih =>
  rw[bD];rcases abX i n with h|h
  ·have h1:i*w+k<n*w:=by
    have:(i+1)*w <= n*w:=Nat.mul_le_mul_right _ h;rw[Nat.succ_mul] at this;omega
   rw[abD (by rw[cU];exact h1),ih h]
  ·obtain rfl:i=n:=by omega
   rw[abG (by rw[cU];omega),cU];rw[Nat.add_sub_cancel_left];simp[hk]
def dD(g:Nat -> Nat -> Value)(i k:Nat)(v:Value):Nat -> Nat -> Value:=λ i' k'=>if i'=i /\ k'=k then v else g i' k'
theorem ur{w:Nat}{g g':Nat -> Nat -> Value}{n:Nat}(h:∀i k,i<n -> k<w -> g i k=g' i k):bD w g n=bD w g' n:=by
 induction n with
 | zero=>rfl
 | succ n ih =>
  rw[bD,bD,ih (λ i k hi hk=>h i k (by omega) hk)];congr 1;exact List.map_congr_left λ k hk=>h n k (by omega) (List.mem_range.1 hk)
theorem ke{w:Nat}{g:Nat -> Nat -> Value}{n:Nat}{l:List Value}(hl:l.length=n*w)(h:∀i k,i<n -> k<w -> l[i*w+k]?=some (g i k)):bD w g n=l:=by
 apply List.ext_getElem?;intro j;rcases abX j (n*w) with hj|hj
 ·have hw:0<w:=by
   rcases Nat.eq_zero_or_pos w with h0|h0
   ·subst h0;simp at hj
   ·exact h0
  have h1:j / w*w+j % w=j:=by rw[Nat.mul_comm];exact Nat.div_add_mod j w
  have hi:j / w<n:=Nat.div_lt_of_lt_mul (by rw[Nat.mul_comm];exact hj);have hk:j % w<w:=Nat.mod_lt _ hw;have h2:=h _ _ hi hk;rw[h1] at h2;rw[h2];have:=mJ (g:=g) hi hk;rw[h1] at this;exact this
 ·rw[List.getElem?_eq_none (by rw[cU];exact hj),List.getElem?_eq_none (by omega)]
theorem zg{w:Nat}{g:Nat -> Nat -> Value}{n i k:Nat}(hi:i<n)(hk:k<w)(v:Value):(bD w g n).set (i*w+k) v=bD w (dD g i k v) n:=by
 symm
 refine ke (by rw[List.length_set,cU]) ?_;intro i' k' hi' Ua;rw[List.getElem?_set,cU]
 by_cases e:i*w+k=i'*w+k'
 ·have e1:i=i':=by
   rcases Nat.lt_trichotomy i i' with h|h|h
   ·have:(i+1)*w <= i'*w:=Nat.mul_le_mul_right _ h;rw[Nat.succ_mul] at this;omega
   ·exact h
   ·have:(i'+1)*w <= i*w:=Nat.mul_le_mul_right _ h;rw[Nat.succ_mul] at this;omega
  subst e1;have e2:k=k':=by omega
  subst e2;have h1:i*w+k<n*w:=by
   have:(i+1)*w <= n*w:=Nat.mul_le_mul_right _ hi;rw[Nat.succ_mul] at this;omega
  simp[h1,dD]
 ·rw[if_neg e,mJ hi' Ua];unfold dD;rw[if_neg];rintro⟨rfl,rfl⟩;exact e rfl
abbrev HL:=List (Nat × Blk)
def Ov(w:World)(H:HL):Prop:=∀x∈H,w.heap[x.1]?=some x.2.den
structure Rel(H:HL)(w:World):Prop where
 holds:Ov w H
 nodup:(H.map (·.1)).Nodup
theorem cw{w:World}{k:Nat}{o:Obj}(h:w.heap[k]?=some o):k<w.heap.size:=(Array.getElem?_eq_some_iff.1 h).1
theorem Rel.lt{H:HL}{w:World}(h:Rel H w){x:Nat × Blk}(hx:x∈H):x.1<w.heap.size:=cw (h.holds x hx)
theorem Rel.drop{H X:HL}{w:World}(h:Rel (X++H) w):Rel H w :=
 ⟨λ x hx=>h.holds x (aav _ hx),by have:=h.nodup;rw[List.map_append] at this;exact(List.nodup_append.1 this).2.1⟩
theorem Rel.perm{H H':HL}{w:World}(h:Rel H w)(hp:H'.Perm H):Rel H' w :=
 ⟨λ x hx=>h.holds x (hp.mem_iff.1 hx),(hp.map _).nodup_iff.2 h.nodup⟩
theorem Rel.sub{H H':HL}{w:World}(h:Rel H w)(hp:H'.Sublist H):Rel H' w :=
 ⟨λ x hx=>h.holds x (hp.subset hx),(hp.map _).nodup h.nodup⟩
theorem Rel.cons{H:HL}{w:World}{o:Obj}(b:Blk)(hb:b.den=o)(h:Rel H w):Rel ((w.heap.size,b)::H) { w with heap:=w.heap.push o }:=by
 subst hb;constructor
 ·intro x hx;show (w.heap.push b.den)[x.1]?=_;rcases List.mem_cons.1 hx with rfl|hx
  ·simp
  ·rw[Array.getElem?_push,if_neg (by have:=h.lt hx;omega)];exact h.holds x hx
 ·simp only[List.map_cons,List.nodup_cons];refine⟨?_,h.nodup⟩;intro hm;obtain⟨x,hx,he⟩:=List.mem_map.1 hm;have:=h.lt hx;omega
theorem Rel.world{H:HL}{w w':World}(h:Rel H w)(e:w'.heap=w.heap):Rel H w':=⟨λ x hx=>by rw[e];exact h.holds x hx,h.nodup⟩
def bn{α:Type}:List α -> Nat -> α -> List α
 | [],_,_=>[]
 | _::l,0,x=>x::l
 | y::l,n+1,x=>y::bn l n x
theorem nu{α:Type}(l:List α)(n:Nat)(x:α):bn l n x=l.set n x:=by
 induction l generalizing n with
 | nil=>rfl
 | cons y l ih=>cases n with
  | zero=>rfl
  | succ n=>rw[bn,ih];rfl
theorem Rel.upd{H F:HL}{w w':World}{p:Nat}{b:Nat}{bl bl':Blk}(h:Rel (H++F) w)(hp:H[p]?=some (b,bl))(hd:w'.heap[b]?=some bl'.den)(hs:∀k,k≠b -> w'.heap[k]?=w.heap[k]?):Rel (bn H p (b,bl')++F) w':=by
 have iF:p<H.length:=(List.getElem?_eq_some_iff.1 hp).1;have hHp:H[p]=(b,bl):=(List.getElem?_eq_some_iff.1 hp).2;rw[nu];have aeL:((H.set p (b,bl')++F).map (·.1))=(H++F).map (·.1):=by
  rw[List.map_append,List.map_append,List.map_set];congr 1;apply List.ext_getElem?;intro j;rw[List.getElem?_set]
  by_cases hj:p=j
  ·subst hj;simp[iF,hHp]
  ·rw[if_neg hj]
 refine⟨?_,by rw[aeL];exact h.nodup⟩;intro x hx;obtain⟨j,hj⟩:=List.getElem?_of_mem hx
 by_cases hjp:j=p
 ·subst hjp;rw[abD (by simpa using iF),List.getElem?_set,if_pos rfl,if_pos iF] at hj;obtain rfl:(b,bl')=x:=by simpa using hj
  exact hd
 ·have hj':(H++F)[j]?=some x:=by
   rcases abX j H.length with hl|hl
   ·rw[abD (by simpa using hl),List.getElem?_set,if_neg (λ e=>hjp e.symm)] at hj;rw[abD hl];exact hj
   ·rw[abG (by simpa using hl),List.length_set] at hj;rw[abG hl];exact hj
  have At:x.1≠b:=by
   intro e;have Tl:=h.nodup;rw[List.nodup_iff_pairwise_ne,List.pairwise_iff_getElem] at Tl;have Ub:j<(H++F).length:=(List.getElem?_eq_some_iff.1 hj').1;have hpl:(H++F)[p]?=some (b,bl):=by rw[abD iF];exact hp
   have aev:p<(H++F).length:=(List.getElem?_eq_some_iff.1 hpl).1;have e1:((H++F).map (·.1))[j]'(by rw[List.length_map];exact Ub)=x.1:=by rw[List.getElem_map,(List.getElem?_eq_some_iff.1 hj').2]
   have e2:((H++F).map (·.1))[p]'(by rw[List.length_map];exact aev)=b:=by rw[List.getElem_map,(List.getElem?_eq_some_iff.1 hpl).2]
   rcases abX j p with W6|To
   ·exact Tl j p _ _ W6 (by rw[e1,e2,e])
   ·exact Tl p j _ _ (by omega) (by rw[e1,e2,e])
  rw[hs _ At];exact h.holds x (List.mem_of_getElem? hj')
theorem Rel.store{H F:HL}{w:World}{p:Nat}{b:Nat}{bl bl':Blk}{a:Addr}{v:Value}(h:Rel (H++F) w)(hp:H[p]?=some (b,bl))(ha:a.block=b)
  (hd:∀W:World,W.heap[b]?=some bl.den -> (W.setCell a v).heap[b]?=some bl'.den):Rel (bn H p (b,bl')++F) (w.setCell a v) :=
 h.upd hp (hd w (h.holds (b,bl) (aaw _ (List.mem_of_getElem? hp)))) (λ k hk=>Below.heap_setCell _ _ _ _ (by rw[ha];exact hk))
inductive Hint where
 | own (p:Nat)
 | row (p i k:Nat)
 | ro (p:Nat)
 | rorow (p i k:Nat)
 | ix (j:Nat)
 | nw
 | sl (l h:Nat) (e:Bool)
 | mk (l c:Nat)
 | dv
 | sh (n:Nat)
 | gd (b:Bool)
 | sq
 | gen
 | mp (p:Nat) (kv:List (ByteArray × Value)) (v:Value)
 | mq (p:Nat) (kv:List (ByteArray × Value)) (v:Value)
 | sl0 (h:Nat)
structure SS where
 h:HL
 r:HL
 hints:List Hint
 cnt:Nat
 eq:List (Nat × Nat)
 ob:List Prop
 wr:Bool
def cy(P:Program)(n0:Nat){α:Type}:Sem α -> SS -> Option (α × SS)
 | .pure a,s=>some (a,s)
 | .load _ a k,s=>match s.hints with
   | .own p::hs=>match s.h[p]? with
    | some (b,.lit cs _ _)=>match a.spot,cs[a.off]? with
     | none,some v=>cy P n0 (k v) { s with hints:=hs,eq:=(a.block,b)::s.eq }
     | _,_=>none
    | _=>none
   | .row p i j::hs=>match s.h[p]? with
    | some (b,.rows w n g _ _)=>match a.spot,decide (j<w) with
     | none,true=>cy P n0 (k (g i j)) { s with hints:=hs,eq:=(a.block,b)::s.eq,ob:=(a.off=i*w+j /\ i<n)::s.ob }
     | _,_=>none
    | _=>none
   | .ro p::hs=>match s.r[p]? with
    | some (b,.lit cs _ _)=>match a.spot,cs[a.off]? with
     | none,some v=>cy P n0 (k v) { s with hints:=hs,eq:=(a.block,b)::s.eq }
     | _,_=>none
    | _=>none
   | .rorow p i j::hs=>match s.r[p]? with
    | some (b,.rows w n g _ _)=>match a.spot,decide (j<w) with
     | none,true=>cy P n0 (k (g i j)) { s with hints:=hs,eq:=(a.block,b)::s.eq,ob:=(a.off=i*w+j /\ i<n)::s.ob }
     | _,_=>none
    | _=>none
   | _=>none
 | .store _ a v k,s=>match v with
   | .agg _=>none
   | .tuple _=>none
   | v=>match s.hints with
    | .own p::hs=>match s.h[p]? with
     | some (b,.lit cs t fz)=>match a.spot,decide (a.off<cs.length),decide (fz.2=0) with
      | none,true,true=>match s.wr with
       | false=>none
       | true=>cy P n0 k { s with h:=bn s.h p (b,.lit (bn cs a.off v) t fz),hints:=hs,eq:=(a.block,b)::s.eq }
      | _,_,_=>none
     | _=>none
    | .row p i j::hs=>match s.h[p]? with
     | some (b,.rows w n g t fz)=>match a.spot,decide (j<w),decide (fz.2=0) with
      | none,true,true=>match s.wr with
       | false=>none
       | true=>cy P n0 k { s with h:=bn s.h p (b,.rows w n (dD g i j v) t fz),hints:=hs,eq:=(a.block,b)::s.eq,ob:=(a.off=i*w+j /\ i<n)::s.ob }
      | _,_,_=>none
     | _=>none
    | _=>none
 | .new o k,s=>match s.wr with
  | false=>none
  | true=>match o with
   | .cells c ty fz=>cy P n0 (k (n0+s.cnt)) { s with h:=(n0+s.cnt,.lit c.toList ty fz)::s.h,cnt:=s.cnt+1 }
   | o=>cy P n0 (k (n0+s.cnt)) { s with h:=(n0+s.cnt,.obj o)::s.h,cnt:=s.cnt+1 }
 | .program k,s=>cy P n0 (k P) s
 | .mark _ k,s=>cy P n0 k s
 | .getObj r k,s=>match s.hints with
   | .own p::hs=>match s.h[p]? with
    | some (b,.obj o)=>match o with
     | .cells _ _ _=>none
     | o=>cy P n0 (k o) { s with hints:=hs,eq:=(r,b)::s.eq }
    | _=>none
   | _=>none
 | .setObj r o k,s=>match s.hints with
   | .own p::hs=>match s.h[p]?,s.wr with
    | some (b,.obj o'),true=>match o' with
     | .cells _ _ _=>none
     | _=>cy P n0 k { s with h:=bn s.h p (b,.obj o),hints:=hs,eq:=(r,b)::s.eq }
    | _,_=>none
   | _=>none
 | _,_=>none
theorem vZ{W:World}{a:Addr}{b:Nat}{cs:List Value}{ty:TypeId}{fz:Nat × Nat}{v:Value}(ha:a.block=b)(hs:a.spot=none)(h:W.heap[b]?=some (Blk.lit cs ty fz).den) :
  (W.setCell a v).heap[b]?=some (Blk.lit (bn cs a.off v) ty fz).den:=by
 subst ha;simp only[World.setCell,Array.getElem?_modify,if_true,h,Option.map_some,Blk.den,hs,Option.isSome_none,Bool.false_eq_true,if_false,nu];simp
theorem us{W:World}{a:Addr}{b w n i k:Nat}{g:Nat -> Nat -> Value}{ty:TypeId}{fz:Nat × Nat}{v:Value}(ha:a.block=b)(hs:a.spot=none)(ho:a.off=i*w+k)(hi:i<n)(hk:k<w)
  (h:W.heap[b]?=some (Blk.rows w n g ty fz).den):(W.setCell a v).heap[b]?=some (Blk.rows w n (dD g i k v) ty fz).den:=by
 subst ha;simp only[World.setCell,Array.getElem?_modify,if_true,h,Option.map_some,Blk.den,hs,Option.isSome_none,Bool.false_eq_true,if_false,<- zg hi hk,ho];simp
theorem dF{P:Program}{n0:Nat}{α:Type}(s:Sem α):∀ (ss r_:SS) (x:α),cy P n0 s ss=some (x,r_) -> (∀p∈ss.eq,p∈r_.eq) /\ (∀p∈ss.ob,p∈r_.ob) /\ r_.r=ss.r /\ r_.wr=ss.wr:=by
 induction s with
 | pure a=>intro ss r_ x h;rw[cy] at h;cases h;exact⟨λ _ h=>h,λ _ h=>h,rfl,rfl⟩
 | load m a k ih =>
  intro ss r_ x h;rw[cy] at h;split at h
  case h_5=>cases h
  all_goals
   split at h
   case h_2=>cases h
   split at h
   case h_2=>cases h
   obtain⟨h1,h2,h3⟩:=ih _ _ _ _ h;exact⟨λ p hp=>h1 p (aaA _ hp),λ p hp=>h2 p (by first|exact hp|exact aaA _ hp),h3⟩
 | store m a v k ih =>
  intro ss r_ x h;rw[cy.eq_def] at h;dsimp only at h;split at h
  ·cases h
  ·cases h
  ·split at h
   case h_3=>cases h
   all_goals
    split at h
    case h_2=>cases h
    split at h
    case h_2=>cases h
    split at h
    ·cases h
    obtain⟨h1,h2,h3⟩:=ih _ _ _ h;exact⟨λ p hp=>h1 p (aaA _ hp),λ p hp=>h2 p (by first|exact hp|exact aaA _ hp),h3⟩
 | new o k ih =>
  intro ss r_ x h;rw[cy.eq_def] at h;dsimp only at h;split at h
  ·cases h
  split at h <;> (have h1:=ih _ _ _ _ h;exact h1)
 | program k ih=>intro ss r_ x h;rw[cy] at h;exact ih _ _ _ _ h
 | mark m k ih=>intro ss r_ x h;rw[cy] at h;exact ih _ _ _ h
 | getObj r k ih =>
  intro ss r_ x h;rw[cy.eq_def] at h;dsimp only at h;split at h
  case h_2=>cases h
  split at h
  case h_2=>cases h
  split at h
  ·cases h
  obtain⟨h1,h2,h3⟩:=ih _ _ _ _ h;exact⟨λ p hp=>h1 p (aaA _ hp),h2,h3⟩
 | setObj r o k ih =>
  intro ss r_ x h;rw[cy.eq_def] at h;dsimp only at h;split at h
  case h_2=>cases h
  split at h
  case h_2=>cases h
  split at h
  ·cases h
  obtain⟨h1,h2,h3⟩:=ih _ _ _ h;exact⟨λ p hp=>h1 p (aaA _ hp),h2,h3⟩
 | _=>intro ss r_ x h;simp[cy] at h
theorem Bm{P:Program}{n0:Nat}{α:Type}(s:Sem α):∀ (ss r_:SS) (x:α),cy P n0 s ss=some (x,r_) -> ss.wr=false -> r_.h=ss.h:=by
 induction s with
 | pure a=>intro ss r_ x h _;rw[cy] at h;cases h;rfl
 | load m a k ih =>
  intro ss r_ x h hw;rw[cy] at h;split at h
  case h_5=>cases h
  all_goals
   split at h
   case h_2=>cases h
   split at h
   case h_2=>cases h
   exact(ih _ _ _ _ h hw :)
 | store m a v k ih =>
  intro ss r_ x h hw;rw[cy.eq_def] at h;dsimp only at h;split at h
  ·cases h
  ·cases h
  ·split at h
   case h_3=>cases h
   all_goals
    split at h
    case h_2=>cases h
    split at h
    case h_2=>cases h
    split at h
    ·cases h
    rename_i e;rw[hw] at e;cases e
 | new o k ih =>
  intro ss r_ x h hw;rw[cy.eq_def] at h;dsimp only at h;split at h
  ·cases h
  rename_i e;rw[hw] at e;cases e
 | program k ih=>intro ss r_ x h hw;rw[cy] at h;exact ih _ _ _ _ h hw
 | mark m k ih=>intro ss r_ x h hw;rw[cy] at h;exact ih _ _ _ h hw
 | getObj r k ih =>
  intro ss r_ x h hw;rw[cy.eq_def] at h;dsimp only at h;split at h
  case h_2=>cases h
  split at h
  case h_2=>cases h
  split at h
  ·cases h
  exact(ih _ _ _ _ h hw :)
 | setObj r o k ih =>
  intro ss r_ x h hw;rw[cy.eq_def] at h;dsimp only at h;split at h
  case h_2=>cases h
  split at h
  case h_2=>cases h
  rename_i e;rw[hw] at e;cases e
 | _=>intro ss r_ x h;simp[cy] at h
theorem qo{w:World}{a:Addr}{b:Nat}{cs:List Value}{ty:TypeId}{fz:Nat × Nat}{v:Value}(h:w.heap[b]?=some (Blk.lit cs ty fz).den)(ha:a.block=b)(hs:a.spot=none)(hv:cs[a.off]?=some v):w.cell? a=some v:=by
 subst ha;simp[World.cell?,h,Blk.den,hs,hv]
theorem lG{W:World}{a:Addr}{b w n i k:Nat}{g:Nat -> Nat -> Value}{ty:TypeId}{fz:Nat × Nat}(h:W.heap[b]?=some (Blk.rows w n g ty fz).den)(ha:a.block=b)(hs:a.spot=none)(ho:a.off=i*w+k)(hi:i<n)(hk:k<w):W.cell? a=some (g i k):=by
 subst ha;simp[World.cell?,h,Blk.den,hs,ho,mJ hi hk]
theorem sJ{w:World}{a:Addr}{b:Nat}{bl:Blk}(h:w.heap[b]?=some bl.den)(ha:a.block=b)(hz:match bl with | .lit _ _ fz=>fz.2=0 | .rows _ _ _ _ fz=>fz.2=0 | .obj _=>False):w.frozen? a=false:=by
 subst ha;cases bl with
 | lit cs ty fz=>obtain⟨lo,hi⟩:=fz;simp only at hz;subst hz;simp[World.frozen?,h,Blk.den]
 | rows w n g ty fz=>obtain⟨lo,hi⟩:=fz;simp only at hz;subst hz;simp[World.frozen?,h,Blk.den]
 | obj o=>exact hz.elim
theorem sK{P:Program}{α:Type}{m:Mode}{a:Addr}{v u:Value}{k:Sem α}{w:World}(h1:∀cs,v ≠ .agg cs)(h2:∀cs,v ≠ .tuple cs)(hc:w.cell? a=some u)(hf:w.frozen? a=false):(Sem.store m a v k).run P w=k.run P (w.setCell a v):=by
 rw[Sem.run.eq_def];cases v <;> first|exact absurd rfl (h1 _)|exact absurd rfl (h2 _)|simp[hc,hf]
theorem mK{P:Program}{n0:Nat}{α:Type}{F:HL}(s:Sem α):∀ (ss r_:SS) (x:α) (w:World),cy P n0 s ss=some (x,r_) ->
  (∀p∈r_.eq,p.1=p.2) -> (∀p∈r_.ob,p) -> Rel (ss.h++F) w -> (∀y∈ss.r,y∈F) -> (ss.wr=true -> n0+ss.cnt=w.heap.size) ->
  ∃w',s.run P w=.ok x w' /\ Rel (r_.h++F) w' /\ Below 0 w w' /\ (ss.wr=true -> n0+r_.cnt=w'.heap.size) /\ (ss.wr=false -> w'=w):=by
 induction s with
 | pure a=>intro ss r_ x w h _ _ hR _ hn;rw[cy] at h;cases h;exact⟨w,rfl,hR,Below.refl _ _,hn,λ _=>rfl⟩
 | load m a k ih =>
  intro ss r_ x w h heq iN hR hr hn;rw[cy] at h;have Uo:∀ (p b:Nat) (bl:Blk),ss.h[p]?=some (b,bl) -> w.heap[b]?=some bl.den:=λ p b bl hp=>hR.holds (b,bl) (aaw _ (List.mem_of_getElem? hp));have RU:∀ (p b:Nat) (bl:Blk),ss.r[p]?=some (b,bl) -> w.heap[b]?=some bl.den:=λ p b bl hp=>hR.holds (b,bl) (aav _ (hr _ (List.mem_of_getElem? hp)));split at h
  case h_5=>cases h
  ·split at h
   case h_2=>cases h
   rename_i hp;split at h
   case h_2=>cases h
   obtain⟨k1,k2,k3⟩:=dF _ _ _ _ h;rename_i v hs hv;have hc:=qo (Uo _ _ _ hp) (heq _ (k1 _ (aax))) hs hv;obtain⟨w',h1,h2,h3,h4,h5⟩:=ih _ _ _ _ w h heq iN hR hr hn;exact⟨w',by rw[Sem.run,hc];exact h1,h2,h3,h4,h5⟩
  ·split at h
   case h_2=>cases h
   rename_i hp;split at h
   case h_2=>cases h
   obtain⟨k1,k2,k3⟩:=dF _ _ _ _ h;rename_i hs hv;obtain⟨o1,o2⟩:=iN _ (k2 _ (aax));have hc:=lG (Uo _ _ _ hp) (heq _ (k1 _ (aax))) hs o1 o2 (by simpa using hv);obtain⟨w',h1,h2,h3,h4,h5⟩:=ih _ _ _ _ w h heq iN hR hr hn;exact⟨w',by rw[Sem.run,hc];exact h1,h2,h3,h4,h5⟩
  ·split at h
   case h_2=>cases h
   rename_i hp;split at h
   case h_2=>cases h
   obtain⟨k1,k2,k3⟩:=dF _ _ _ _ h;rename_i v hs hv;have hc:=qo (RU _ _ _ hp) (heq _ (k1 _ (aax))) hs hv;obtain⟨w',h1,h2,h3,h4,h5⟩:=ih _ _ _ _ w h heq iN hR hr hn;exact⟨w',by rw[Sem.run,hc];exact h1,h2,h3,h4,h5⟩
  ·split at h
   case h_2=>cases h
   rename_i hp;split at h
   case h_2=>cases h
   obtain⟨k1,k2,k3⟩:=dF _ _ _ _ h;rename_i hs hv;obtain⟨o1,o2⟩:=iN _ (k2 _ (aax));have hc:=lG (RU _ _ _ hp) (heq _ (k1 _ (aax))) hs o1 o2 (by simpa using hv);obtain⟨w',h1,h2,h3,h4,h5⟩:=ih _ _ _ _ w h heq iN hR hr hn;exact⟨w',by rw[Sem.run,hc];exact h1,h2,h3,h4,h5⟩
 | store m a v k ih =>
  intro ss r_ x w h heq iN hR hr hn;rw[cy.eq_def] at h;dsimp only at h;split at h
  ·cases h
  ·cases h
  ·rename_i hv1 Yr;have Uo:∀ (p b:Nat) (bl:Blk),ss.h[p]?=some (b,bl) -> w.heap[b]?=some bl.den:=λ p b bl hp=>hR.holds (b,bl) (aaw _ (List.mem_of_getElem? hp));split at h
   case h_3=>cases h
   ·split at h
    case h_2=>cases h
    rename_i hp;split at h
    case h_2=>cases h
    rename_i hs iF hz;split at h
    ·cases h
    rename_i Uj;obtain⟨k1,k2,k3⟩:=dF _ _ _ _ h;have ha:=heq _ (k1 _ (aax));have W6:a.off<_:=aci iF;have hc:=qo (Uo _ _ _ hp) ha hs (abt W6);have hf:=sJ (Uo _ _ _ hp) ha (by simpa using hz);have D_:=hR.store (v:=v) hp ha (λ W hW=>vZ ha hs hW);obtain⟨w',h1,h2,h3,h4,-⟩:=ih _ _ _ (w.setCell a v) h heq iN D_ hr (λ e=>by simpa [World.setCell] using hn e);exact⟨w',by rw[sK (λ cs e=>hv1 cs e) (λ cs e=>Yr cs e) hc hf];exact h1,h2,((Below.refl 0 w).setCell (aa9 _) v).trans h3,h4,λ e=>by rw[Uj] at e;cases e⟩
   ·split at h
    case h_2=>cases h
    rename_i hp;split at h
    case h_2=>cases h
    rename_i hs iF hz;split at h
    ·cases h
    rename_i Uj;obtain⟨k1,k2,k3⟩:=dF _ _ _ _ h;have ha:=heq _ (k1 _ (aax));obtain⟨o1,o2⟩:=iN _ (k2 _ (aax));have hk:_<_:=aci iF;have hc:=lG (Uo _ _ _ hp) ha hs o1 o2 hk;have hf:=sJ (Uo _ _ _ hp) ha (by simpa using hz);have D_:=hR.store (v:=v) hp ha (λ W hW=>us ha hs o1 o2 hk hW);obtain⟨w',h1,h2,h3,h4,-⟩:=ih _ _ _ (w.setCell a v) h heq iN D_ hr (λ e=>by simpa [World.setCell] using hn e);exact⟨w',by rw[sK (λ cs e=>hv1 cs e) (λ cs e=>Yr cs e) hc hf];exact h1,h2,((Below.refl 0 w).setCell (aa9 _) v).trans h3,h4,λ e=>by rw[Uj] at e;cases e⟩
 | new o k ih =>
  intro ss r_ x w h heq iN hR hr hn;rw[cy.eq_def] at h;dsimp only at h;have hb:∀o':Obj,Below 0 w { w with heap:=w.heap.push o' }:=λ o'=>⟨rfl,rfl,rfl,by simp,λ k hk=>by omega⟩;split at h
  ·cases h
  rename_i Uj
  replace hn:=hn Uj
  split at h
  ·rename_i c ty fz;have D_:=hR.cons (.lit c.toList ty fz) (o:=.cells c ty fz) (by simp[Blk.den]);rw[<- hn] at D_;obtain⟨w',h1,h2,h3,h4,-⟩:=ih _ _ _ _ _ h heq iN D_ hr (λ _=>by simp;omega);refine⟨w',?_,h2,(hb _).trans h3,h4,λ e=>by rw[Uj] at e;cases e⟩;rw[Sem.run,<- hn];exact h1
  ·have D_:=hR.cons (.obj o) (o:=o) rfl;rw[<- hn] at D_;obtain⟨w',h1,h2,h3,h4,-⟩:=ih _ _ _ _ _ h heq iN D_ hr (λ _=>by simp;omega);refine⟨w',?_,h2,(hb _).trans h3,h4,λ e=>by rw[Uj] at e;cases e⟩;rw[Sem.run,<- hn];exact h1
 | program k ih =>
  intro ss r_ x w h heq iN hR hr hn;rw[cy] at h;obtain⟨w',h1,h2,h3,h4,h5⟩:=ih _ _ _ _ w h heq iN hR hr hn;exact⟨w',by rw[Sem.run];exact h1,h2,h3,h4,h5⟩
 | mark m k ih =>
  intro ss r_ x w h heq iN hR hr hn;rw[cy] at h;obtain⟨w',h1,h2,h3,h4,h5⟩:=ih _ _ _ w h heq iN hR hr hn;exact⟨w',by rw[Sem.run];exact h1,h2,h3,h4,h5⟩
 | getObj r k ih =>
  intro ss r_ x w h heq iN hR hr hn;rw[cy.eq_def] at h;dsimp only at h;split at h
  case h_2=>cases h
  split at h
  case h_2=>cases h
  rename_i hp;split at h
  ·cases h
  rename_i o Sz;obtain⟨k1,k2,k3⟩:=dF _ _ _ _ h;have ha:=heq _ (k1 _ (aax));simp only at ha;have hb:=hR.holds _ (aaw _ (List.mem_of_getElem? hp));simp only[Blk.den] at hb;obtain⟨w',h1,h2,h3,h4,h5⟩:=ih _ _ _ _ w h heq iN hR hr hn;refine⟨w',?_,h2,h3,h4,h5⟩;rw[Sem.run.eq_def];simp only[ha,hb];exact h1
 | setObj r o k ih =>
  intro ss r_ x w h heq iN hR hr hn;rw[cy.eq_def] at h;dsimp only at h;split at h
  case h_2=>cases h
  split at h
  case h_2=>cases h
  rename_i hp Uj;split at h
  ·cases h
  rename_i o' Sz;obtain⟨k1,k2,k3⟩:=dF _ _ _ _ h;have ha:=heq _ (k1 _ (aax));simp only at ha;have hb:=hR.holds _ (aaw _ (List.mem_of_getElem? hp));simp only[Blk.den] at hb;have iF:=cw hb;have D_:=hR.upd (w':={ w with heap:=w.heap.setIfInBounds r o }) (bl':=.obj o) hp (by
   subst ha;show (w.heap.setIfInBounds r o)[r]?=_;rw[Array.getElem?_setIfInBounds_self_of_lt iF];rfl) (λ k' hk=>by
   subst ha;show (w.heap.setIfInBounds r o)[k']?=_;rw[Array.getElem?_setIfInBounds_ne (λ e=>hk e.symm)])
  have SU:Below 0 w { w with heap:=w.heap.setIfInBounds r o }:=⟨rfl,rfl,rfl,by simp,λ k hk=>by omega⟩;obtain⟨w',h1,h2,h3,h4,-⟩:=ih _ _ _ { w with heap:=w.heap.setIfInBounds r o } h heq iN D_ hr (λ e=>by simpa using hn e);refine⟨w',?_,h2,SU.trans h3,h4,λ e=>by rw[Uj] at e;cases e⟩;rw[Sem.run.eq_def];simp only[ha,hb];rw[ha] at h1;exact h1
 | _=>intro ss r_ x w h;simp[cy] at h
abbrev FL:=List (Nat × Value)
structure Fm(N:Nat)(D:List Deferred)(L:FL)(a:Act):Prop where
 size:a.tmps.size=N
 defs:a.defers=D
 has:∀t v,L.lookup t=some v -> a.tmps[t]?=some v
def fA(L:FL):Operand -> Value
 | .tmp t=>(L.lookup t).getD undef
 | .const v=>v
 | .global g=>.pointer (some ⟨g,0,none⟩)
 | .func f=>.func (.func f) #[] #[]
def gB(L:FL):Operand -> Bool
 | .tmp t=>(L.lookup t).isSome
 | _=>true
theorem Fm.eval{N:Nat}{D:List Deferred}{L:FL}{a:Act}(h:Fm N D L a){x:Operand}(hx:gB L x=true):a.eval x=fA L x:=by
 cases x with
 | tmp t =>
  simp only[gB,Option.isSome_iff_exists] at hx;obtain⟨v,hv⟩:=hx;simp[Act.eval,fA,hv,h.has t v hv]
 | _=>rfl
def cq:Op -> Option (List Operand)
 | .alloc _=>some []
 | .move x | .assign x | .box _ x | .load _ x | .nilCheck x | .unOp _ _ x | .convert _ _ x | .sliceToArrayPointer _ x | .makeInterface _ x | .fieldAddr _ x _ | .field _ x _ | .typeAssert x _ _ _ | .extract x _ | .range _ x | .next x _=>some [x]
 | .pick c a b=>some [c,a,b]
 | .build _ ps | .buildSlice _ _ ps=>some (ps.toList.map (·.2))
 | .store _ a v | .binOp _ _ a v _ | .makeSlice _ a v | .indexAddr _ a v | .index _ a v | .lookup _ a v _=>some [a,v]
 | .makeFunc _ first captured=>some (first.toList++captured.toList)
 | .makeMap _ r=>some r.toList
 | .slice _ x l h m=>some (x::(l.toList++(h.toList++m.toList)))
 | .mapUpdate _ m k v=>some [m,k,v]
 | .insert _ m k v=>some [m,k,v]
 | .call c=>some ((match c.callee with | .value f=>[f] | .invoke r _=>[r] | .builtin _=>[])++c.args.toList)
 | _=>none
theorem sL{o:Op}{l:List Operand}(h:cq o=some l):(∀x∈o.operands,x∈l) /\ ∀cs b,o ≠ .select cs b:=by
 cases o <;> simp only[cq,Option.some.injEq,reduceCtorEq] at h <;> subst h <;> refine⟨?_,by simp⟩ <;> intro x hx <;> simp[Op.operands,Call.operands] at hx ⊢ <;>
  first
   | done
   | exact hx
   | (rename_i c;obtain⟨callee,args,ZZ⟩:=c;cases callee <;> simp_all)
   | skip
def iJ(o:Op)(L:FL):Bool:=match cq o with
 | some l=>l.all (gB L)
 | none=>false
theorem Fm.exec{N:Nat}{D:List Deferred}{L:FL}{a:Act}(h:Fm N D L a){o:Oper}(ho:iJ o.op L=true):execOp a.eval o=execOp (fA L) o:=by
 unfold iJ at ho;split at ho
 ·rename_i l hl;obtain⟨h1,h2⟩:=sL hl;exact execOp_congr o h2 λ x hx=>h.eval (List.all_eq_true.1 ho x (h1 x hx))
 ·cases ho
def eh(N:Nat)(dst:Option Tmp)(v:Value)(L:FL):Option FL:=match dst with
 | none=>some L
 | some d=>match decide (d<N) with
  | true=>some ((d,v)::L)
  | false=>none
theorem Fm.put{N:Nat}{D:List Deferred}{L L':FL}{a:Act}(h:Fm N D L a){dst:Option Tmp}{v:Value}(hp:eh N dst v L=some L'):Fm N D L' (a.put dst v):=by
 unfold eh at hp;cases dst with
 | none=>cases hp;exact h
 | some d =>
  simp only at hp;split at hp
  ·rename_i hd;cases hp;have Tt:d<N:=aci hd;refine⟨by simp[Act.put,h.size],h.defs,?_⟩;intro t u ht;simp only[Act.put];rw[List.lookup_cons] at ht
   by_cases e:t=d
   ·subst e;simp at ht;subst ht;rw[Array.getElem?_setIfInBounds_self_of_lt (by rw[h.size];exact Tt)]
   ·rw[Array.getElem?_setIfInBounds_ne (λ e'=>e e'.symm)];have:(t == d)=false:=by simpa using e
    rw[this] at ht;exact h.has t u ht
  ·cases hp
def sM(keys:List Nat)(L:FL):Option FL:=match keys with
 | []=>some []
 | t::ks=>match L.lookup t,sM ks L with
  | some v,some l=>some ((t,v)::l)
  | _,_=>none
theorem nv{L:FL}:∀ {keys:List Nat} {L':FL},sM keys L=some L' -> ∀t v,L'.lookup t=some v -> L.lookup t=some v
 | [],L',h,t,v,hl=>by rw[sM] at h;cases h;cases hl
 | k::ks,L',h,t,v,hl=>by
  rw[sM] at h;split at h
  ·rename_i u l hu hp;cases h;rw[List.lookup_cons] at hl
   by_cases e:t=k
   ·subst e;simp at hl;subst hl;exact hu
   ·have:(t == k)=false:=by simpa using e
    rw[this] at hl;exact nv hp t v hl
  ·cases h
theorem Fm.pick{N:Nat}{D:List Deferred}{L L':FL}{a:Act}(h:Fm N D L a){keys:List Nat}(hp:sM keys L=some L'):Fm N D L' a :=
 ⟨h.size,h.defs,λ t v ht=>h.has t v (nv hp t v ht)⟩
def sd(a:Addr)(n:Nat):Addr:=⟨a.block,a.off+n,none⟩
theorem gF{a:Addr}(h:a.spot=none)(n:Nat):a.add n=sd a n:=by
 unfold Addr.add sd;split
 ·subst n;cases a;simp at h;subst h;rfl
 ·rfl
def CT(ρ:Operand -> Value)(x:Option Operand)(n d:Nat):Prop:=match x with
 | some v=>match ρ v with
  | .int _ z=>z=(n:Int)
  | _=>False
 | none=>n=d
theorem iK{P:Program}{ρ:Operand -> Value}{lo hi:Option Operand}{l h len cap:Nat}(o1:CT ρ lo l 0)(o2:CT ρ hi h len)(o3:l <= h)(o4:h <= cap)(W:World) :
  (Instr.sliceBounds true len cap (lo.map ρ) (hi.map ρ) none).run P W=.ok (l,h,cap) W:=by
 have b1:∀ (k:IntKind) (y n:Nat) (c:BoundsCode),n <= y -> (Instr.sliceBound (.int k (n:Int)) y c).run P W=.ok n W:=by
  intro k y n c hny;simp[Instr.sliceBound,asIntOf,hny,go_sem]
 have g:∀ (x:Option Operand) (n d:Nat),CT ρ x n d -> (x=none /\ n=d) \/ ∃v k,x=some v /\ ρ v=.int k (n:Int):=by
  intro x n d hb;cases x with
  | none=>exact .inl ⟨rfl,hb⟩
  | some v =>
   right;unfold CT at hb;simp only at hb;cases hv:ρ v <;> rw[hv] at hb <;> simp only at hb
   exact⟨v,_,rfl,by rw[hv,hb]⟩
 unfold Instr.sliceBounds;rcases g _ _ _ o1 with ⟨rfl,rfl⟩|⟨v,k,rfl,hv⟩ <;> rcases g _ _ _ o2 with ⟨rfl,rfl⟩|⟨v',k',rfl,hv'⟩
 ·simp[ace]
 ·simp[ace,hv',b1,o4]
 ·simp[ace,hv,b1,o3]
 ·simp[ace,hv,hv',b1,o3,o4]
def Bn(P:Program)(t:TypeId)(cs:Array Value)(off:Nat):Option Value:=match P.underlying t with
 | some (.struct _)=>match P.info? t with
  | some i=>some (.agg (cs.extract off (off+i.size)))
  | none=>none
 | some (.array _ _)=>match P.info? t with
  | some i=>some (.agg (cs.extract off (off+i.size)))
  | none=>none
 | some _=>cs[off]?
 | none=>none
def Ow(P:Program)(rec:TypeId -> Value -> Value -> Option Bool)(xs ys:Array Value):List Field -> Option Bool
 | []=>some true
 | f :: fs=>match decide (f.name="_") with
  | true=>Ow P rec xs ys fs
  | false=>match Bn P f.type xs f.offset,Bn P f.type ys f.offset with
   | some a,some b=>match rec f.type a b,Ow P rec xs ys fs with
    | some r,some r'=>some (r && r')
    | _,_=>none
   | _,_=>none
def Ol(P:Program):Nat -> TypeId -> Value -> Value -> Option Bool
 | 0,_,_,_=>none
 | d+1,t,x,y=>match P.underlying t,x,y with
  | some (.int _),.int k a,.int k' b=>match decide (k=k') with
   | true=>some (decide (a=b))
   | false=>none
  | some .bool,.bool a,.bool b=>some (a == b)
  | some (.struct fs),.agg xs,.agg ys=>match P.stoodInHeld t with
   | false=>Ow P (Ol P d) xs ys fs.toList
   | true=>none
  | _,_,_=>none
theorem v6{P:Program}{t:TypeId}{cs:Array Value}{off:Nat}{v:Value}(h:Bn P t cs off=some v)(w:World):(part t cs off).run P w=.ok v w:=by
 have und:∀d,P.underlying t=some d -> ∀W,(underlying t).run P W=.ok d W:=λ d hd W=>by simp[underlying,program,bind,Sem.bind,Sem.run,hd,pure]
 have inf:∀i,P.info? t=some i -> ∀W,(typeInfo t).run P W=.ok i W:=λ i hd W=>by simp[typeInfo,program,bind,Sem.bind,Sem.run,hd,pure]
 unfold Bn at h;split at h
 ·rename_i fs hu;split at h
  ·rename_i i hi;cases h;simp[part,isAgg,ace,und _ hu,sizeOf,inf _ hi]
  ·cases h
 ·rename_i n e hu;split at h
  ·rename_i i hi;cases h;simp[part,isAgg,ace,und _ hu,sizeOf,inf _ hi]
  ·cases h
 ·rename_i d h1 h2 hu;have hag:(isAgg t).run P w=.ok false w:=by
   unfold isAgg;rw[ace,und _ hu];simp only[acd];cases d <;> first|rfl|exact(h1 _ rfl).elim|exact(h2 _ _ rfl).elim
  simp[part,ace,hag,h]
 ·cases h
theorem Bo{P:Program}:∀ (d:Nat) (t:TypeId) (x y:Value) (b:Bool) (w:World),Ol P d t x y=some b -> (Op.equalIn d t x y).run P w=.ok b w
 | 0,t,x,y,b,w,h=>by simp[Ol] at h
 | d+1,t,x,y,b,w,h=>by
  unfold Ol at h;split at h
  case h_1 =>
   rename_i k1 k a k' b' hu;split at h
   ·rename_i hk;cases h;have:k=k':=aci hk;subst this;rw[run_equalIn_int w d t k k1 a b' hu];rfl
   ·cases h
  case h_2 =>
   rename_i a b' hu;cases h;exact run_equalIn_bool' w d t a b' hu
  case h_3 =>
   rename_i fs xs ys hu;split at h
   ·rename_i hs;have hf:P.fieldsOf t=fs:=by simp[Program.fieldsOf,hu]
    rw[run_equalIn_agg w d t xs ys (by rw[hf];exact hu) hs,hf];revert h;generalize fs.toList=l;clear hu hf
    induction l generalizing b with
    | nil=>intro h;simp[Ow] at h;subst h;simp[Op.eqFields]
    | cons f fs ih =>
     intro h;rw[Ow] at h;split at h
     ·rename_i hn;have W5:f.name="_":=aci hn;rw[Op.eqFields,if_neg (by simp[W5])];exact ih _ h
     ·rename_i hn;have W5:¬ f.name="_":=of_decide_eq_false hn;split at h
      ·rename_i u v hu hv;split at h
       ·rename_i r r' hr Wz;cases h;rw[Op.eqFields,if_pos W5];simp only[ace,v6 hu,v6 hv,acd,Bo d _ _ _ _ w hr];cases r
        ·simp
        ·simpa using ih _ Wz
       ·cases h
      ·cases h
   ·cases h
  case h_4=>cases h
def Fl(s:ByteArray)(j:Nat):Int:=((s[j]?).getD 0).toNat
theorem nz{P:Program}{α:Type}(k:Program -> Sem α)(w:World):((program >>= k):Sem α).run P w=(k P).run P w:=rfl
theorem cZ{P:Program}{t:TypeId}{i:TypeInfo}(h:P.info? t=some i)(w:World):(typeInfo t).run P w=.ok i w:=by
 simp[typeInfo,program,bind,Sem.bind,Sem.run,h,pure]
theorem aG{P:Program}{t:TypeId}{i:TypeDesc}(h:P.underlying t=some i)(w:World):(underlying t).run P w=.ok i w:=by
 simp[underlying,program,bind,Sem.bind,Sem.run,h,pure]
theorem Fp{a b:ByteArray}:(a == b)=true↔a=b:=by
 obtain⟨a⟩:=a;obtain⟨b⟩:=b;show (a == b)=true↔_;simp
theorem JQ(a:ByteArray):(a == a)=true:=Fp.2 rfl
def v7:Nat -> List (ByteArray × Value) -> List MapEntry
 | _,[]=>[]
 | i,(k,v)::l=>{ key:=.string k,val:=v,born:=i }::v7 (i+1) l
abbrev Fq(kv:List (ByteArray × Value)):Obj:=.map ⟨v7 0 kv⟩ kv.length
def ut:List (ByteArray × Value) -> ByteArray -> Option Value
 | [],_=>none
 | (k',v)::l,k=>if (k == k')=true then some v else ut l k
def zh:List (ByteArray × Value) -> ByteArray -> Nat -> Option (Nat × Value)
 | [],_,_=>none
 | (k',v)::l,k,i=>if (k == k')=true then some (i,v) else zh l k (i+1)
theorem sN(k:ByteArray):∀ (kv:List (ByteArray × Value)) (b i:Nat),Instr.findNow .string (.string k) (v7 b kv) i=some (zh kv k i)
 | [],_,_=>rfl
 | (k',v)::l,b,i=>by
  rw[v7,Instr.findNow,zh];simp only[Instr.sameNow];cases h:(k == k') with
  | true=>simp
  | false=>simp[sN k l (b+1) (i+1)]
theorem v8(k:ByteArray):∀ (kv:List (ByteArray × Value)) (i:Nat),(zh kv k i).map (·.2)=ut kv k
 | [],_=>rfl
 | (k',v)::l,i=>by
  rw[zh,ut];split
  ·rfl
  ·exact v8 k l (i+1)
theorem CU{P:Program}{kt:TypeId}(hk:P.underlying kt=some .string)(k:ByteArray)(kv:List (ByteArray × Value))(b:Nat)(w:World):(Instr.findKey kt (.string k) (v7 b kv)).run P w=.ok (zh kv k 0) w:=by
 unfold Instr.findKey;rw[ace,aG hk];simp only[Result.andThen,sN];rfl
theorem zi{P:Program}{kt:TypeId}(hk:P.underlying kt=some .string)(e:Bool)(k:ByteArray)(w:World):(Instr.checkKey e 10000 kt (.string k)).run P w=.ok () w:=by
 rw[show (10000:Nat)=9999+1 from rfl,Instr.checkKey.eq_def];simp only;rw[ace,aG hk];rfl
theorem cD{P:Program}{α:Type}(a:α)(w:World):((pure a:Sem α)).run P w=.ok a w:=rfl
theorem gc{P:Program}{w:World}{r:Nat}{es:Array MapEntry}{c:Nat}(h:w.heap[r]?=some (.map es c)):(getObj r).run P w=.ok (.map es c) w:=by
 unfold getObj;rw[Sem.run.eq_def];simp only[h];rfl
theorem zj{P:Program}{w:World}{t kt et:TypeId}{b:Nat}{kv:List (ByteArray × Value)}{k:ByteArray}{z:Value}{i:TypeInfo}(ok:Bool)(ht:P.underlying t=some (.map kt et))(hk:P.underlying kt=some .string)(hi:P.info? et=some i)(hz:i.zero=some z)(hb:w.heap[b]?=some (Fq kv)) :
  (Instr.lookup t (.map (some b)) (.string k) ok).run P w=.ok (if ok=true then .tuple #[(ut kv k).getD z,.bool (ut kv k).isSome] else (ut kv k).getD z) w:=by
 unfold Instr.lookup;rw[ace,aG ht];simp only[Result.andThen,ace,gc hb,cD,zi hk,CU hk];rw[<- v8 k kv 0];cases h:zh kv k 0 with
 | some x =>
  obtain⟨j,v⟩:=x;cases ok <;> rfl
 | none =>
  simp only[zeroValue,ace,cZ hi,Result.andThen,hz,cD];cases ok <;> rfl
abbrev lkV(kv:List (ByteArray × Value))(k:ByteArray)(ok:Bool)(z:Value):Value:=if ok=true then .tuple #[(ut kv k).getD z,.bool (ut kv k).isSome] else (ut kv k).getD z
theorem Fs(a b:ByteArray):(a.toList == b.toList)=decide (a=b):=by
 rw[ByteArray.toList_eq,ByteArray.toList_eq,Bool.eq_iff_iff,decide_eq_true_iff,beq_iff_eq];constructor
 ·intro h;exact ByteArray.ext (Array.toList_inj.mp h)
 ·rintro rfl;rfl
def ev(P:Program)(n0:Nat)(o:Oper)(ρ:Operand -> Value)(s:SS):Option (Next × SS) :=
 match o.op with
 | .indexAddr t x ix=>match s.hints with
  | .ix j::hs=>match P.underlying t,ρ x,ρ ix with
   | some (.slice elem),.slice (some a) len _,.int _ i=>match a.spot,P.info? elem with
    | none,some inf=>some (.value (.pointer (some (sd a (j*inf.size)))),{ s with hints:=hs,ob:=(i=(j:Int) /\ j<len)::s.ob })
    | _,_=>none
   | some (.array len elem),.pointer (some a),.int _ i=>match a.spot,P.info? elem with
    | none,some inf=>some (.value (.pointer (some (sd a (j*inf.size)))),{ s with hints:=hs,ob:=(i=(j:Int) /\ j<len)::s.ob })
    | _,_=>none
   | _,_,_=>none
  | .gen::hs=>cy P n0 (execOp ρ o) { s with hints:=hs }
  | _=>cy P n0 (execOp ρ o) s
 | .binOp op t x y _=>match s.hints with
  | .nw::hs=>match op,ρ x,ρ y with
   | .add,.int .i64 a,.int .i64 b=>some (.value (.int .i64 (a+b)),{ s with hints:=hs,ob:=(-9223372036854775808 <= a+b /\ a+b <= 9223372036854775807)::s.ob })
   | .sub,.int .i64 a,.int .i64 b=>some (.value (.int .i64 (a-b)),{ s with hints:=hs,ob:=(-9223372036854775808 <= a-b /\ a-b <= 9223372036854775807)::s.ob })
   | .mul,.int .i64 a,.int .i64 b=>some (.value (.int .i64 (a*b)),{ s with hints:=hs,ob:=(-9223372036854775808 <= a*b /\ a*b <= 9223372036854775807)::s.ob })
   | .quo,.int .i64 a,.int .i64 b=>some (.value (.int .i64 (a / b)),{ s with hints:=hs,ob:=(0 <= a /\ 0<b /\ a <= 9223372036854775807)::s.ob })
   | .rem,.int .i64 a,.int .i64 b=>some (.value (.int .i64 (a % b)),{ s with hints:=hs,ob:=(0 <= a /\ 0<b /\ a <= 9223372036854775807)::s.ob })
   | _,_,_=>none
  | .dv::hs=>match op,ρ x,ρ y with
   | .quo,.int .i64 a,.int .i64 b=>some (.value (.int .i64 (i64.wrap (a.tdiv b))),{ s with hints:=hs,ob:=(b≠0)::s.ob })
   | .rem,.int .i64 a,.int .i64 b=>some (.value (.int .i64 (a.tmod b)),{ s with hints:=hs,ob:=(b≠0)::s.ob })
   | .shl,.int k a,.int _ b=>some (.value (.int k (k.wrap (a*2 ^ min b.toNat k.bits))),{ s with hints:=hs,ob:=(0 <= b)::s.ob })
   | .shr,.int k a,.int _ b=>some (.value (.int k (a.fdiv (2 ^ min b.toNat k.bits))),{ s with hints:=hs,ob:=(0 <= b)::s.ob })
   | _,_,_=>none
  | .sq::hs=>match op,ρ x,ρ y with
   | .eql,.agg xs,.agg ys=>match P.eqGuardType P.depth t,Ol P 10000 t (.agg xs) (.agg ys) with
    | false,some b=>some (.value (.bool b),{ s with hints:=hs })
    | _,_=>none
   | .neq,.agg xs,.agg ys=>match P.eqGuardType P.depth t,Ol P 10000 t (.agg xs) (.agg ys) with
    | false,some b=>some (.value (.bool (!b)),{ s with hints:=hs })
    | _,_=>none
   | .eql,.string a,.string b=>some (.value (.bool (decide (a=b))),{ s with hints:=hs })
   | .neq,.string a,.string b=>some (.value (.bool (!decide (a=b))),{ s with hints:=hs })
   | _,_,_=>none
  | .gen::hs=>cy P n0 (execOp ρ o) { s with hints:=hs }
  | _=>cy P n0 (execOp ρ o) s
 | .index t x ix=>match s.hints with
  | .ix j::hs=>match P.underlying t,ρ x,ρ ix with
   | some .string,.string b,.int _ i=>some (.value (.int .u8 (Fl b j)),{ s with hints:=hs,ob:=(i=(j:Int) /\ j<b.size)::s.ob })
   | _,_,_=>none
  | .gen::hs=>cy P n0 (execOp ρ o) { s with hints:=hs }
  | _=>cy P n0 (execOp ρ o) s
 | .unOp op t x=>match s.hints with
  | .nw::hs=>match op,ρ x with
   | .neg,.int .i64 a=>some (.value (.int .i64 (-a)),{ s with hints:=hs,ob:=(-9223372036854775807 <= a /\ a <= 9223372036854775808)::s.ob })
   | _,_=>none
  | .gen::hs=>cy P n0 (execOp ρ o) { s with hints:=hs }
  | _=>cy P n0 (execOp ρ o) s
 | .slice t x lo hi mx=>match s.hints with
  | .sl l h e::hs=>match P.underlying t,ρ x,mx with
   | some (.slice elem),.slice a len cap,none=>match a,P.info? elem with
    | none,some inf=>some (.value (.slice none (h-l) (cap-l)),{ s with hints:=hs,ob:=(CT ρ lo l 0 /\ CT ρ hi h len /\ l <= h /\ h <= cap)::s.ob })
    | some a,some inf=>match a.spot with
     | none=>some (.value (.slice (some (match e with|true=>a|false=>sd a (l*inf.size))) (h-l) (cap-l)),{ s with hints:=hs,ob:=(CT ρ lo l 0 /\ CT ρ hi h len /\ l <= h /\ h <= cap /\ (match e with|true=>cap=l|false=>cap≠l))::s.ob })
     | _=>none
    | _,_=>none
   | _,_,_=>none
  | .gen::hs=>cy P n0 (execOp ρ o) { s with hints:=hs }
  | .sl0 h::hs=>match P.underlying t,ρ x,lo,mx with
   | some (.slice elem),.slice a len cap,none,none=>match P.info? elem with
    | some inf=>some (.value (.slice a h cap),{ s with hints:=hs,ob:=(CT ρ hi h len /\ h <= cap)::s.ob })
    | none=>none
   | _,_,_,_=>none
  | _=>cy P n0 (execOp ρ o) s
 | .makeSlice t x y=>match s.hints with
  | .mk l c::hs=>match P.underlying t,ρ x,ρ y with
   | some (.slice elem),.int .i64 a,.int .i64 b=>match P.info? elem with
    | some inf=>match inf.zero,s.wr with
     | some z,true=>some (.value (.slice (some ⟨n0+s.cnt,0,none⟩) l c),{ s with h:=(n0+s.cnt,.rows inf.size c (λ _ k=>z.cells.getD k default) elem (0,0))::s.h,cnt:=s.cnt+1,hints:=hs,ob:=(a=(l:Int) /\ b=(c:Int) /\ l <= c /\ inf.bytes*c <= 140737488355328 /\ z.cells.size=inf.size /\ c <= 9223372036854775807)::s.ob })
     | _,_=>none
    | none=>none
   | _,_,_=>none
  | .gen::hs=>cy P n0 (execOp ρ o) { s with hints:=hs }
  | _=>cy P n0 (execOp ρ o) s
 | .pick x a b=>match s.hints with
  | .gd c::hs=>match ρ x with
   | .bool t=>some (.value (match c with|true=>ρ a|false=>ρ b),{ s with hints:=hs,ob:=(t=c)::s.ob })
   | _=>none
  | .gen::hs=>cy P n0 (execOp ρ o) { s with hints:=hs }
  | _=>cy P n0 (execOp ρ o) s
 | .lookup t x ix ok=>match s.hints with
  | .mp p kv v::hs=>match P.underlying t,ρ x,ρ ix,s.h[p]? with
   | some (.map kt et),.map (some b),.string k,some (b',.obj O)=>match P.underlying kt,(P.info? et).bind (·.zero) with
    | some .string,some z=>some (.value v,{ s with hints:=hs,eq:=(b,b')::s.eq,ob:=(O=Fq kv /\ lkV kv k ok z=v)::s.ob })
    | _,_=>none
   | _,_,_,_=>none
  | .mq p kv v::hs=>match P.underlying t,ρ x,ρ ix,s.r[p]? with
   | some (.map kt et),.map (some b),.string k,some (b',.obj O)=>match P.underlying kt,(P.info? et).bind (·.zero) with
    | some .string,some z=>some (.value v,{ s with hints:=hs,eq:=(b,b')::s.eq,ob:=(O=Fq kv /\ lkV kv k ok z=v)::s.ob })
    | _,_=>none
   | _,_,_,_=>none
  | .gen::hs=>cy P n0 (execOp ρ o) { s with hints:=hs }
  | _=>cy P n0 (execOp ρ o) s
 | _=>cy P n0 (execOp ρ o) s
theorem dG{P:Program}{n0:Nat}{o:Oper}{ρ:Operand -> Value}{ss r_:SS}{x:Next}(h:ev P n0 o ρ ss=some (x,r_)):(∀p∈ss.eq,p∈r_.eq) /\ (∀p∈ss.ob,p∈r_.ob) /\ r_.r=ss.r /\ r_.wr=ss.wr:=by
 unfold ev at h
 repeat' split at h
 all_goals first
  | exact(dF _ _ _ _ h :)
  | (cases h;done)
  | (cases h;exact⟨λ _ h=>h,λ _ h=>aaA _ h,rfl,rfl⟩)
  | (cases h;exact⟨λ _ h=>aaA _ h,λ _ h=>aaA _ h,rfl,rfl⟩)
  | (cases h;exact⟨λ _ h=>h,λ _ h=>h,rfl,rfl⟩)
theorem wa(z:Array Value)(c:Nat):((Array.range (c*z.size)).map λ i=>z[i % z.size]!)=⟨bD z.size (λ _ k=>z.getD k default) c⟩:=by
 apply Array.ext';rw[Array.toList_map,Array.toList_range];show _=bD _ _ _
 symm
 refine ke (by simp) ?_;intro i k hi hk;have h1:i*z.size+k<c*z.size:=by
  have:(i+1)*z.size <= c*z.size:=Nat.mul_le_mul_right _ hi;rw[Nat.succ_mul] at this;omega
 rw[List.getElem?_map,List.getElem?_range h1];simp only[Option.map_some,Nat.mul_add_mod_self_right,Nat.mod_eq_of_lt hk];simp[getElem!_def,Array.getD,hk,getElem?_pos]
theorem gG{P:Program}{n0:Nat}{F:HL}{o:Oper}{ρ:Operand -> Value}{ss r_:SS}{x:Next}{w:World}(h:ev P n0 o ρ ss=some (x,r_))
  (heq:∀p∈r_.eq,p.1=p.2) (iN:∀p∈r_.ob,p) (hR:Rel (ss.h++F) w) (hr:∀y∈ss.r,y∈F) (hn:ss.wr=true -> n0+ss.cnt=w.heap.size) :
  ∃w',(execOp ρ o).run P w=.ok x w' /\ Rel (r_.h++F) w' /\ Below 0 w w' /\ (ss.wr=true -> n0+r_.cnt=w'.heap.size) /\ (ss.wr=false -> w'=w):=by
 have g:∀hs:List Hint,cy P n0 (execOp ρ o) { ss with hints:=hs }=some (x,r_) -> ∃w',(execOp ρ o).run P w=.ok x w' /\ Rel (r_.h++F) w' /\ Below 0 w w' /\ (ss.wr=true -> n0+r_.cnt=w'.heap.size) /\ (ss.wr=false -> w'=w):=λ hs h=>by
  have h1:=mK (F:=F) (w:=w) _ _ _ _ h heq iN hR hr hn;exact h1
 have g':cy P n0 (execOp ρ o) ss=some (x,r_) -> ∃w',(execOp ρ o).run P w=.ok x w' /\ Rel (r_.h++F) w' /\ Below 0 w w' /\ (ss.wr=true -> n0+r_.cnt=w'.heap.size) /\ (ss.wr=false -> w'=w):=λ h=>by
  exact mK (F:=F) (w:=w) _ _ _ _ h heq iN hR hr hn
 unfold ev at h;split at h
 ·-- indexAddr
  rename_i t x' ix' H_;split at h
  case h_2=>exact g _ h
  case h_3=>exact g' h
  split at h
  ·rename_i elem a len cap k i hu hx hi;split at h
   case h_2=>cases h
   rename_i inf hs RY;cases h;obtain⟨o1,o2⟩:=iN _ (aax);refine⟨w,?_,hR,Below.refl _ _,hn,λ _=>rfl⟩;subst o1;simp[execOp,H_,Instr.indexAt,hx,hi,asIntOf,underlying,hu,sizeOf,typeInfo,RY,nz,go_sem,gF hs,o2,program,bind,Sem.bind,Sem.run,pure]
  ·rename_i len elem a k i hu hx hi;split at h
   case h_2=>cases h
   rename_i inf hs RY;cases h;obtain⟨o1,o2⟩:=iN _ (aax);refine⟨w,?_,hR,Below.refl _ _,hn,λ _=>rfl⟩;subst o1;simp[execOp,H_,Instr.indexAt,hx,hi,asIntOf,underlying,hu,sizeOf,typeInfo,RY,nz,go_sem,gF hs,o2,program,bind,Sem.bind,Sem.run,pure,Instr.sureAddr]
  ·cases h
 ·-- binOp
  rename_i op t x' y' ty H_;split at h
  case h_4=>exact g _ h
  case h_5=>exact g' h
  case h_3 =>
   split at h
   case h_5=>cases h
   case h_3 =>
    rename_i a b hx hy;cases h;exact⟨w,by simp[execOp,H_,hx,hy,eqGuard,Go.binOp,Op.stringOp,Fs,pure,bind,Sem.bind,Sem.run],hR,Below.refl _ _,hn,λ _=>rfl⟩
   case h_4 =>
    rename_i a b hx hy;cases h;exact⟨w,by simp[execOp,H_,hx,hy,eqGuard,Go.binOp,Op.stringOp,Fs,bne,pure,bind,Sem.bind,Sem.run],hR,Below.refl _ _,hn,λ _=>rfl⟩
   all_goals
    rename_i xs ys hx hy;split at h
    case h_2=>cases h
    rename_i b hg he;cases h;refine⟨w,?_,hR,Below.refl _ _,hn,λ _=>rfl⟩;have e2:=λ W=>Bo _ _ _ _ _ W he;simp[execOp,H_,hx,hy,ace,run_eqGuard_agg w _ t x' y' xs ys hg,run_eql_struct,run_neq_struct,e2]
  ·split at h
   case h_6=>cases h
   case h_4 =>
    rename_i a b hx hy;cases h;obtain⟨o1,o2,o3⟩:=iN _ (aax);refine⟨w,?_,hR,Below.refl _ _,hn,λ _=>rfl⟩;have h1:a / b <= a:=Int.ediv_le_self _ o1;have h2:0 <= a / b:=Int.ediv_nonneg o1 (by omega);have hw:i64.wrap (a.tdiv b)=a / b:=by rw[Int.tdiv_eq_ediv_of_nonneg o1,IntKind.wrap_i64];omega
    have o4:¬ b=0:=by omega
    simp[execOp,H_,hx,hy,eqGuard,Go.binOp,Op.intDiv,o4,hw,pure,bind,Sem.bind,Sem.run]
   case h_5 =>
    rename_i a b hx hy;cases h;obtain⟨o1,o2,o3⟩:=iN _ (aax);refine⟨w,?_,hR,Below.refl _ _,hn,λ _=>rfl⟩;have hw:a.tmod b=a % b:=Int.tmod_eq_emod_of_nonneg o1;have o4:¬ b=0:=by omega
    simp[execOp,H_,hx,hy,eqGuard,Go.binOp,Op.intDiv,o4,hw,pure,bind,Sem.bind,Sem.run]
   all_goals
    rename_i a b hx hy;cases h;have o1:=iN _ (aax);refine⟨w,?_,hR,Below.refl _ _,hn,λ _=>rfl⟩;have hw:∀z:Int,-9223372036854775808 <= z /\ z <= 9223372036854775807 -> i64.wrap z=z:=λ z hz=>by rw[IntKind.wrap_i64];omega
    simp[execOp,H_,hx,hy,eqGuard,Go.binOp,Op.intArith,hw _ o1,pure,bind,Sem.bind,Sem.run]
  ·split at h
   case h_5=>cases h
   case h_3 =>
    rename_i k a yk b hx hy;cases h;have o1:¬ b<0:=by have:0 <= b:=iN _ (aax);omega
    refine⟨w,?_,hR,Below.refl _ _,hn,λ _=>rfl⟩;simp[execOp,H_,hx,hy,eqGuard,Go.binOp,Op.shift,o1,pure,bind,Sem.bind,Sem.run]
   case h_4 =>
    rename_i k a yk b hx hy;cases h;have o1:¬ b<0:=by have:0 <= b:=iN _ (aax);omega
    refine⟨w,?_,hR,Below.refl _ _,hn,λ _=>rfl⟩;simp[execOp,H_,hx,hy,eqGuard,Go.binOp,Op.shift,o1,pure,bind,Sem.bind,Sem.run]
   all_goals
    rename_i a b hx hy;cases h;have o1:b≠0:=iN _ (aax);refine⟨w,?_,hR,Below.refl _ _,hn,λ _=>rfl⟩;simp[execOp,H_,hx,hy,eqGuard,Go.binOp,Op.intDiv,o1,pure,bind,Sem.bind,Sem.run]
 ·-- index
  rename_i t x' ix' H_;split at h
  case h_2=>exact g _ h
  case h_3=>exact g' h
  split at h
  case h_2=>cases h
  rename_i b k i hu hx hi;cases h;obtain⟨o1,o2⟩:=iN _ (aax);refine⟨w,?_,hR,Below.refl _ _,hn,λ _=>rfl⟩;subst o1;have k3:=λ W=>aG hu W;simp[execOp,H_,Instr.index,hx,hi,asIntOf,k3,ace,o2,Fl]
 ·-- unOp
  rename_i op t x' H_;split at h
  case h_2=>exact g _ h
  case h_3=>exact g' h
  split at h
  case h_2=>cases h
  rename_i a hx;cases h;have o1:=iN _ (aax);refine⟨w,?_,hR,Below.refl _ _,hn,λ _=>rfl⟩;have hw:i64.wrap (-a)=-a:=by rw[IntKind.wrap_i64];omega
  simp[execOp,H_,hx,Op.unary,Op.intArith,hw,pure,bind,Sem.bind,Sem.run]
 ·-- slice
  rename_i t x' lo hi mx H_;split at h
  case h_2=>exact g _ h
  case h_4=>exact g' h
  case h_3 =>
   rename_i hh hs VU;split at h
   case h_2=>cases h
   rename_i elem a len cap hu hx;split at h
   case h_2=>cases h
   rename_i inf RY;cases h;obtain⟨o2,o4⟩:=iN _ (aax);refine⟨w,?_,hR,Below.refl _ _,hn,λ _=>rfl⟩;have k1:=iK (P:=P) (ρ:=ρ) (lo:=none) (hi:=hi) (l:=0) (h:=hh) (len:=len) (cap:=cap) rfl o2 (aa9 _) o4 w;have k2:=λ W=>cZ RY W;have k3:=λ W=>aG hu W;have ea:(if cap=0 then a else Option.map (λ x=>x.add 0) a)=a:=by
    split
    ·rfl
    ·cases a <;> simp[Addr.add]
   rw[show Option.map ρ none=none from rfl] at k1;simp[execOp,H_,Instr.sliceAt,Instr.slice,hx,k3,sizeOf,k2,ace,k1,ea]
  rename_i l hh e hs VU;split at h
  case h_2=>cases h
  rename_i elem a len cap hu hx;split at h
  case h_3=>cases h
  ·rename_i inf RY;cases h;obtain⟨o1,o2,o3,o4⟩:=iN _ (aax);refine⟨w,?_,hR,Below.refl _ _,hn,λ _=>rfl⟩;have k1:=iK (P:=P) o1 o2 o3 o4 w;have k2:=λ W=>cZ RY W;have k3:=λ W=>aG hu W;simp[execOp,H_,Instr.sliceAt,Instr.slice,hx,k3,sizeOf,k2,ace,k1]
  ·rename_i a inf RY;split at h
   case h_2=>cases h
   rename_i UG;cases h;obtain⟨o1,o2,o3,o4,o5⟩:=iN _ (aax);refine⟨w,?_,hR,Below.refl _ _,hn,λ _=>rfl⟩;have k1:=iK (P:=P) o1 o2 o3 o4 w;have k2:=λ W=>cZ RY W;have k3:=λ W=>aG hu W;cases e
   ·simp only at o5 ⊢;simp[execOp,H_,Instr.sliceAt,Instr.slice,hx,k3,sizeOf,k2,ace,k1,o5,gF UG]
   ·simp only at o5 ⊢;subst o5;simp[execOp,H_,Instr.sliceAt,Instr.slice,hx,k3,sizeOf,k2,ace,k1]
 ·-- makeSlice
  rename_i t x' y' H_;split at h
  case h_2=>exact g _ h
  case h_3=>exact g' h
  rename_i l c hs VU;split at h
  case h_2=>cases h
  rename_i elem a b hu hx hy;split at h
  case h_2=>cases h
  rename_i inf RY;split at h
  case h_2=>cases h
  rename_i z hz Uj;cases h
  replace hn:=hn Uj
  obtain⟨o1,o2,o3,o4,o5,o6⟩:=iN _ (aax);subst o1;subst o2;have hl:i64.wrap (l:Int)=l:=by rw[IntKind.wrap_i64];omega
  have hc:i64.wrap (c:Int)=c:=by rw[IntKind.wrap_i64];omega
  have D_:=hR.cons (.rows inf.size c (λ _ k=>z.cells.getD k default) elem (0,0)) (o:=.cells ⟨bD inf.size (λ _ k=>z.cells.getD k default) c⟩ elem (0,0)) rfl;rw[<- hn] at D_;refine⟨_,?_,D_,⟨rfl,rfl,rfl,by simp,λ k hk=>by omega⟩,λ _=>by simp;omega,λ e=>by rw[Uj] at e;cases e⟩;have abQ:¬ ((281474976710656:Int)<(inf.bytes:Int)*(c:Int)):=by
   have:((inf.bytes*c:Nat):Int)=(inf.bytes:Int)*(c:Int):=by simp
   rw[<- this];omega
  have AI:¬ (roomBytes<c*inf.bytes):=by unfold roomBytes;rw[Nat.mul_comm];omega
  have hlc:¬ ((c:Int)<l):=by omega
  have UL:¬ ((l:Int)<0):=by omega
  have hc0:¬ ((c:Int)<0):=by omega
  have k2:=λ W=>cZ RY W;have k3:=λ W=>aG hu W
  by_cases h0:c*inf.size=0
  ·have he:∀g,bD inf.size g c=[]:=λ g=>by
    apply abR;rw[cU];exact h0
   have hr0:∀f:Nat -> Value,Array.map f (Array.range 0)=⟨[]⟩:=λ f=>by simp
   simp[execOp,H_,Instr.makeSlice,hx,hy,k3,sizeOf,k2,zeroValue,hz,ace,asInt,asIntOf,hl,hc,abQ,AI,hlc,UL,hc0,h0,askRoom,newRow,newObj,he,hr0,Sem.run,hn]
  ·have hzf:=wa z.cells c;rw[o5] at hzf;simp[execOp,H_,Instr.makeSlice,hx,hy,k3,sizeOf,k2,zeroValue,hz,ace,asInt,asIntOf,hl,hc,abQ,AI,hlc,UL,hc0,h0,askRoom,newRow,newObj,Sem.run,hn,o5,hzf]
 ·-- pick
  rename_i x' a' b' H_;split at h
  case h_2=>exact g _ h
  case h_3=>exact g' h
  split at h
  case h_2=>cases h
  rename_i t ht;cases h;have o1:=iN _ (aax);refine⟨w,?_,hR,Below.refl _ _,hn,λ _=>rfl⟩;subst o1;cases t <;> simp[execOp,H_,ht,asBool]
 ·-- lookup
  rename_i t x' ix' ok H_;split at h
  case h_3=>exact g _ h
  case h_4=>exact g' h
  all_goals
   split at h
   case h_2=>cases h
   rename_i kt et b k b' O hu hx hi hp;split at h
   case h_2=>cases h
   rename_i z hk hz;cases h;obtain⟨o1,o2⟩:=iN _ (aax);have e1:b=b':=heq _ (aax);subst o1;subst e1;subst o2;rw[Option.bind_eq_some_iff] at hz;obtain⟨inf,RY,hz⟩:=hz;refine⟨w,?_,hR,Below.refl _ _,hn,λ _=>rfl⟩;have hb:w.heap[b]?=some (Fq _):=hR.holds (b,.obj (Fq _)) (by first|exact aaw _ (List.mem_of_getElem? hp)|exact aav _ (hr _ (List.mem_of_getElem? hp)));have:=zj (P:=P) (w:=w) (k:=k) ok hu hk RY hz hb;simp only[execOp,H_,hx,hi,ace,this,Result.andThen];rfl
 ·exact g' h
end Go.Proofs.YtdppjkjbghbnjaaGreatDoor
