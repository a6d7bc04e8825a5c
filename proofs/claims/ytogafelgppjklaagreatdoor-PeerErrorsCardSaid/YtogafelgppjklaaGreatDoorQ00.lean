import Derived.WalkKit
import Derived.OrdersHeld
import Derived.Deep.RegionHeld3
import Derived.KernelRfl
import Derived.Laws.StructEq
import Derived.TacticsIn
import Derived.RangeFuncIn
import Derived.OrdersIn
set_option maxHeartbeats 4000000
set_option maxRecDepth 100000
set_option linter.all false
namespace Go.Proofs.YtogafelgppjklaaGreatDoor
open Go.RowKit
open IntKind
section
variable {P:Program} {W w w':World} {a:Addr} {b i k n n0 p:Nat} {fz:Nat×Nat} {g:Nat->Nat->Value} {o:Obj} {ty:TypeId} {α:Type}
abbrev bt:=@List.getElem?_eq_some_iff
abbrev de:=@Option.some.injEq
abbrev df:=@Prod.mk.injEq
abbrev eb:=@Array.getElem?_eq_some_iff
abbrev eB:=@List.drop_eq_getElem_cons
abbrev go:=@Below.refl
abbrev jt:=@List.mem_singleton
abbrev lv:=@Array.getElem?_setIfInBounds_self_of_lt
abbrev np:=@List.mem_of_getElem?
abbrev pt:=@Nat.not_lt_zero
abbrev sv:=@List.perm_middle
abbrev vo:=@List.getElem?_eq_none
abbrev UV:=@Array.getD_eq_getD_getElem?
abbrev WF:=@List.take_append_of_le_length
abbrev WP:=@Array.getElem?_setIfInBounds_ne
abbrev abl:=@List.cons_append
abbrev abn:=@Array.getElem?_eq_getElem
abbrev abo:=@List.length_replicate
abbrev abp:=@Nat.zero_add
abbrev abs:=@List.mem_cons
abbrev abw:=@List.length_singleton
abbrev abz:=@List.nil_append
abbrev abA:=@List.getElem?_cons_succ
abbrev abB:=@List.Perm.append_left
abbrev abC:=@List.contains_iff_mem
abbrev abE:=@List.length_set
abbrev abF:=@List.take_of_length_le
abbrev abG:=@List.mem_map
abbrev abH:=@List.drop_append_of_le_length
abbrev abI:=@Nat.eq_zero_or_pos
abbrev abJ:=@List.map_append
abbrev abK:=@Option.map_some
abbrev abL:=@Option.some.inj
abbrev abM:=@List.mem_append
abbrev abP:=@List.ext_getElem?
abbrev abX:=@Nat.add_mul
abbrev abZ:=@Nat.add_zero
abbrev ab0:=@Nat.mul_le_mul_right
abbrev ab1:=@Option.map_eq_some_iff
abbrev ab2:=@List.length_map
abbrev ab3:=@List.getElem?_replicate
abbrev ab4:=@List.drop_eq_nil_of_le
abbrev ab5:=@List.getElem?_set
abbrev ab7:=@List.map_cons
abbrev ab8:=@Sem.run.eq_def
abbrev ab9:=@List.getElem?_toArray
abbrev aca:=@Int.emod_lt_of_pos
abbrev acb:=@List.getElem?_take_of_lt
abbrev acd:=@List.getElem?_cons_zero
abbrev ace:=@List.append_nil
abbrev acf:=@Array.getElem?_eq_none
abbrev ach:=@Array.getElem?_append_left
abbrev acl:=@Array.toList_map
abbrev acm:=@List.take_length
abbrev acn:=@Int.le_refl
abbrev aco:=@Option.isSome_iff_exists
abbrev acp:=@Bool.eq_false_iff
abbrev acy:=@Int.emod_nonneg
abbrev acB:=@Nat.succ_mul
abbrev acG:=@List.getElem?_range
abbrev acK:=@List.filterMap_cons
abbrev acM:=@Array.toList_append
abbrev acO:=@List.mem_map_of_mem
abbrev acT:=@List.lookup_cons
abbrev acY:=@List.getElem_mem
abbrev ac2:=@List.getElem_cons_succ
abbrev ac5:=@Array.getElem?_setIfInBounds
abbrev ac6:=@Bool.not_eq_false'
abbrev ada:=@Array.getElem?_modify
abbrev adc:=@Nat.ble_eq_true_of_le
abbrev adj:=@List.nodup_append
abbrev adk:=@Nat.add_assoc
abbrev adl:=@List.drop_zero
abbrev adm:=@List.drop_drop
abbrev ady:=@List.all_eq_true
abbrev adA:=@List.flatten_append
abbrev adB:=@List.getD_cons_zero
abbrev adD:=@List.getD_cons_succ
abbrev adE:=@Nat.add_sub_cancel_left
abbrev adG:=@List.nodup_cons
abbrev adH:=@List.length_nil
abbrev adI:=@List.filterMap_nil
abbrev adJ:=@Array.foldl_toList
abbrev adM:=@List.take_succ_eq_append_getElem
abbrev adN:=@List.length_range
abbrev adO:=@List.take_add_one
abbrev adP:=@Option.isSome_map
abbrev adQ:=@List.mapM_cons
abbrev adR:=@List.take_take
abbrev adS:=@Nat.zero_mul
abbrev adT:=@List.mem_flatMap
abbrev adU:=@List.mem_iff_getElem
abbrev adV:=@List.map_congr_left
abbrev adW:=@Array.getElem?_push
abbrev adX:=@Array.length_toList
abbrev adY:=@Nat.min_eq_left
abbrev adZ:=@Nat.le_succ
abbrev ad0:=@Int.tdiv_eq_ediv_of_nonneg
abbrev ad1:=@Nat.le_of_mul_le_mul_right
abbrev ad2:=@Nat.mul_comm
abbrev ad3:=@Below.heap_setCell
abbrev ad4:=@Bool.false_eq_true
abbrev ad5:=@Array.toList_range
abbrev ad6:=@List.mem_range
abbrev ad7:=@Nat.mul_le_mul
abbrev ad8:=@Nat.lt_trichotomy
abbrev ad9:=@List.mem_ofFn
abbrev aea:=@Array.toList_inj
abbrev aeb:=@Nat.mod_eq_of_lt
abbrev aec:=@Array.toList_zip
abbrev aed:=@Option.getD_some
abbrev aee:=@List.range'_succ
abbrev aef:=@List.drop_length
abbrev aeg:=@List.flatten_nil
abbrev aeh:=@List.cons.injEq
abbrev aei:=@Int.tmod_nonneg
abbrev aej:=@Nat.sub_self
abbrev aek:=@Nat.sub_zero
def aaB:=@List.mem_append_right
def aaC:=@List.mem_append_left
def aaD:=@List.mem_cons_self
def aaE:=@List.mem_cons_of_mem
def aaF:=@List.append_assoc
def aaG:=@List.getD_eq_getElem?_getD
def aaH:=@Nat.le_of_ble_eq_true
def aaI:=@Nat.le_refl
def aaJ:=@Nat.zero_le
def aaK:=@List.length_append
def aaL:=@List.length_take
def aaM:=@List.length_drop
def aaN:=@List.length_cons
def aaP:=@List.getElem?_eq_getElem
def aaQ:=@List.getElem?_append_left
def aaR:=@List.getElem?_append_right
def aaS:=@List.perm_append_comm
def aaT:=@List.Perm.append_right
def aaU:=@List.eq_nil_of_length_eq_zero
def aaV:=@Nat.lt_or_ge
def aaW:=@Bool.and_eq_true
def aaX:=@Nat.eq_of_beq_eq_true
def aa6:=@List.flatten_cons
def aa7:=@Result.andThen_ok
def aa8:=@Sem.run_bind
def aa9:=@of_decide_eq_true
def abd:=@List.getElem?_drop
def abe:=@List.getElem?_take
def abf:=@List.getElem?_map
def abg:=@List.take_append_drop
def abh:=@decide_eq_false
def abk:=@decide_eq_true
inductive Blk where
 |lit (cs:List Value) (ty:TypeId) (fz:Nat×Nat)
 |rows (w n:Nat) (g:Nat->Nat->Value) (ty:TypeId) (fz:Nat×Nat)
 |obj (o:Obj)
def bq(w:Nat)(g:Nat->Nat->Value):Nat->List Value
 |0=>[]
 |n+1=>bq w g n++(List.range w).map (g n)
def Blk.den:Blk->Obj
 | .lit cs ty fz=>.cells ⟨cs⟩ ty fz
 | .rows w n g ty fz=>.cells ⟨bq w g n⟩ ty fz
 | .obj o=>o
theorem cm{w:Nat}:(bq w g n).length=n*w:=by
 induction n with
 |zero=>simp[bq]
 |succ n ih=>simp[bq,ih,acB]
theorem nK{w:Nat}(hi:i<n)(hk:k<w):(bq w g n)[i*w+k]?=some (g i k):=by
 induction n with
 |zero=>omega
 |succ n ih=>
  rw[bq];rcases aaV i n with h|h
  ·have h1:i*w+k<n*w:=by
    have:(i+1)*w<=n*w:=ab0 _ h;rw[acB] at this;omega
   rw[aaQ (by rw[cm];exact h1),ih h]
  ·obtain rfl:i=n:=by omega
   rw[aaR (by rw[cm];omega),cm];rw[adE];simp[hk]
def cF(g:Nat->Nat->Value)(i k:Nat)(v:Value):Nat->Nat->Value:=λ i' k'=>if i'=i/\k'=k then v else g i' k'
theorem vN{w:Nat}{g':Nat->Nat->Value}(h:∀i k,i<n->k<w->g i k=g' i k):bq w g n=bq w g' n:=by
 induction n with
 |zero=>rfl
 |succ n ih=>
  rw[bq,bq,ih (λ i k hi hk=>h i k (by omega) hk)];congr 1;exact adV λ k hk=>h n k (by omega) (ad6.1 hk)
theorem iW{w:Nat}{l:List Value}(hl:l.length=n*w)(h:∀i k,i<n->k<w->l[i*w+k]?=some (g i k)):bq w g n=l:=by
 apply abP;intro j;rcases aaV j (n*w) with hj|hj
 ·have hw:0<w:=by
   rcases abI w with h0|h0
   ·subst h0;simp at hj
   ·exact h0
  have h1:j/w*w+j%w=j:=by rw[ad2];exact Nat.div_add_mod j w
  have hi:j/w<n:=Nat.div_lt_of_lt_mul (by rw[ad2];exact hj);have hk:j%w<w:=Nat.mod_lt _ hw;have h2:=h _ _ hi hk;rw[h1] at h2;rw[h2];have:=nK (g:=g) hi hk;rw[h1] at this;exact this
 ·rw[vo (by rw[cm];exact hj),vo (by omega)]
theorem Az{w:Nat}(hi:i<n)(hk:k<w)(v:Value):(bq w g n).set (i*w+k) v=bq w (cF g i k v) n:=by
 symm
 refine iW (by rw[abE,cm]) ?_;intro i' k' hi' XI;rw[ab5,cm]
 by_cases e:i*w+k=i'*w+k'
 ·have e1:i=i':=by
   rcases ad8 i i' with h|h|h
   ·have:(i+1)*w<=i'*w:=ab0 _ h;rw[acB] at this;omega
   ·exact h
   ·have:(i'+1)*w<=i*w:=ab0 _ h;rw[acB] at this;omega
  subst e1;have e2:k=k':=by omega
  subst e2;have h1:i*w+k<n*w:=by
   have:(i+1)*w<=n*w:=ab0 _ hi;rw[acB] at this;omega
  simp[h1,cF]
 ·rw[if_neg e,nK hi' XI];unfold cF;rw[if_neg];rintro⟨rfl,rfl⟩;exact e rfl
abbrev HL:=List (Nat×Blk)
def xq(w:World)(H:HL):Prop:=∀x∈H,w.heap[x.1]?=some x.2.den
structure Rel(H:HL)(w:World):Prop where
 holds:xq w H
 nodup:(H.map (·.1)).Nodup
theorem bX(h:w.heap[k]?=some o):k<w.heap.size:=(eb.1 h).1
theorem Rel.lt{H:HL}(h:Rel H w){x:Nat×Blk}(hx:x∈H):x.1<w.heap.size:=bX (h.holds x hx)
theorem Rel.drop{H X:HL}(h:Rel (X++H) w):Rel H w :=
 ⟨λ x hx=>h.holds x (aaB _ hx),by have:=h.nodup;rw[abJ] at this;exact(adj.1 this).2.1⟩
theorem Rel.perm{H H':HL}(h:Rel H w)(hp:H'.Perm H):Rel H' w :=
 ⟨λ x hx=>h.holds x (hp.mem_iff.1 hx),(hp.map _).nodup_iff.2 h.nodup⟩
theorem Rel.sub{H H':HL}(h:Rel H w)(hp:H'.Sublist H):Rel H' w :=
 ⟨λ x hx=>h.holds x (hp.subset hx),(hp.map _).nodup h.nodup⟩
theorem Rel.cons{H:HL}(b:Blk)(hb:b.den=o)(h:Rel H w):Rel ((w.heap.size,b)::H) { w with heap:=w.heap.push o }:=by
 subst hb;constructor
 ·intro x hx;show (w.heap.push b.den)[x.1]?=_;rcases abs.1 hx with rfl|hx
  ·simp
  ·rw[adW,if_neg (by have:=h.lt hx;omega)];exact h.holds x hx
 ·simp only[ab7,adG];refine⟨?_,h.nodup⟩;intro hm;obtain⟨x,hx,he⟩:=abG.1 hm;have:=h.lt hx;omega
theorem Rel.world{H:HL}(h:Rel H w)(e:w'.heap=w.heap):Rel H w':=⟨λ x hx=>by rw[e];exact h.holds x hx,h.nodup⟩
def aO{α:Type}:List α->Nat->α->List α
 | [],_,_=>[]
 |_::l,0,x=>x::l
 |y::l,n+1,x=>y::aO l n x
theorem oB(l:List α)(n:Nat)(x:α):aO l n x=l.set n x:=by
 induction l generalizing n with
 |nil=>rfl
 |cons y l ih=>cases n with
  |zero=>rfl
  |succ n=>rw[aO,ih];rfl
theorem Rel.upd{H F:HL}{bl bl':Blk}(h:Rel (H++F) w)(hp:H[p]?=some (b,bl))(hd:w'.heap[b]?=some bl'.den)(hs:∀k,k≠b->w'.heap[k]?=w.heap[k]?):Rel (aO H p (b,bl')++F) w':=by
 have g_:p<H.length:=(bt.1 hp).1;have hHp:H[p]=(b,bl):=(bt.1 hp).2;rw[oB];have aiV:((H.set p (b,bl')++F).map (·.1))=(H++F).map (·.1):=by
  rw[abJ,abJ,List.map_set];congr 1;apply abP;intro j;rw[ab5]
  by_cases hj:p=j
  ·subst hj;simp[g_,hHp]
  ·rw[if_neg hj]
 refine⟨?_,by rw[aiV];exact h.nodup⟩;intro x hx;obtain⟨j,hj⟩:=List.getElem?_of_mem hx
 by_cases hjp:j=p
 ·subst hjp;rw[aaQ (by simpa using g_),ab5,if_pos rfl,if_pos g_] at hj;obtain rfl:(b,bl')=x:=by simpa using hj
  exact hd
 ·have hj':(H++F)[j]?=some x:=by
   rcases aaV j H.length with hl|hl
   ·rw[aaQ (by simpa using hl),ab5,if_neg (λ e=>hjp e.symm)] at hj;rw[aaQ hl];exact hj
   ·rw[aaR (by simpa using hl),abE] at hj;rw[aaR hl];exact hj
  have DO:x.1≠b:=by
   intro e;have W_:=h.nodup;rw[List.nodup_iff_pairwise_ne,List.pairwise_iff_getElem] at W_;have Xa:j<(H++F).length:=(bt.1 hj').1;have hpl:(H++F)[p]?=some (b,bl):=by rw[aaQ g_];exact hp
   have aiD:p<(H++F).length:=(bt.1 hpl).1;have e1:((H++F).map (·.1))[j]'(by rw[ab2];exact Xa)=x.1:=by rw[List.getElem_map,(bt.1 hj').2]
   have e2:((H++F).map (·.1))[p]'(by rw[ab2];exact aiD)=b:=by rw[List.getElem_map,(bt.1 hpl).2]
   rcases aaV j p with aba|VT
   ·exact W_ j p _ _ aba (by rw[e1,e2,e])
   ·exact W_ p j _ _ (by omega) (by rw[e1,e2,e])
  rw[hs _ DO];exact h.holds x (np hj')
theorem Rel.store{H F:HL}{bl bl':Blk}{v:Value}(h:Rel (H++F) w)(hp:H[p]?=some (b,bl))(ha:a.block=b)
  (hd:∀W:World,W.heap[b]?=some bl.den->(W.setCell a v).heap[b]?=some bl'.den):Rel (aO H p (b,bl')++F) (w.setCell a v) :=
 h.upd hp (hd w (h.holds (b,bl) (aaC _ (np hp)))) (λ k hk=>ad3 _ _ _ _ (by rw[ha];exact hk))
inductive Hint where
 | o (p:Nat)
 |row (p i k:Nat)
 |ro (p:Nat)
 |rorow (p i k:Nat)
 |ix (j:Nat)
 |nw
 |sl (l h:Nat) (e:Bool)
 |mk (l c:Nat)
 |dv
 |sh (n:Nat)
 |gd (b:Bool)
 |sq
 |gen
 |mp (p:Nat) (kv:List (ByteArray×Value)) (v:Value)
 |mq (p:Nat) (kv:List (ByteArray×Value)) (v:Value)
 |sl0 (h:Nat)
structure SS where
 h:HL
 r:HL
 hints:List Hint
 cnt:Nat
 eq:List (Nat×Nat)
 ob:List Prop
 wr:Bool
def bZ(P:Program)(n0:Nat){α:Type}:Sem α->SS->Option (α×SS)
 | .pure a,s=>some (a,s)
 | .load _ a k,s=>match s.hints with
   | .o p::hs=>match s.h[p]? with
    |some (b,.lit cs _ _)=>match a.spot,cs[a.off]? with
     |none,some v=>bZ P n0 (k v) { s with hints:=hs,eq:=(a.block,b)::s.eq }
     |_,_=>none
    |_=>none
   | .row p i j::hs=>match s.h[p]? with
    |some (b,.rows w n g _ _)=>match a.spot,decide (j<w) with
     |none,true=>bZ P n0 (k (g i j)) { s with hints:=hs,eq:=(a.block,b)::s.eq,ob:=(a.off=i*w+j/\i<n)::s.ob }
     |_,_=>none
    |_=>none
   | .ro p::hs=>match s.r[p]? with
    |some (b,.lit cs _ _)=>match a.spot,cs[a.off]? with
     |none,some v=>bZ P n0 (k v) { s with hints:=hs,eq:=(a.block,b)::s.eq }
     |_,_=>none
    |_=>none
   | .rorow p i j::hs=>match s.r[p]? with
    |some (b,.rows w n g _ _)=>match a.spot,decide (j<w) with
     |none,true=>bZ P n0 (k (g i j)) { s with hints:=hs,eq:=(a.block,b)::s.eq,ob:=(a.off=i*w+j/\i<n)::s.ob }
     |_,_=>none
    |_=>none
   |_=>none
 | .store _ a v k,s=>match v with
   | .agg _=>none
   | .tuple _=>none
   |v=>match s.hints with
    | .o p::hs=>match s.h[p]? with
     |some (b,.lit cs t fz)=>match a.spot,decide (a.off<cs.length),decide (fz.2=0) with
      |none,true,true=>match s.wr with
       |false=>none
       |true=>bZ P n0 k { s with h:=aO s.h p (b,.lit (aO cs a.off v) t fz),hints:=hs,eq:=(a.block,b)::s.eq }
      |_,_,_=>none
     |_=>none
    | .row p i j::hs=>match s.h[p]? with
     |some (b,.rows w n g t fz)=>match a.spot,decide (j<w),decide (fz.2=0) with
      |none,true,true=>match s.wr with
       |false=>none
       |true=>bZ P n0 k { s with h:=aO s.h p (b,.rows w n (cF g i j v) t fz),hints:=hs,eq:=(a.block,b)::s.eq,ob:=(a.off=i*w+j/\i<n)::s.ob }
      |_,_,_=>none
     |_=>none
    |_=>none
 | .new o k,s=>match s.wr with
  |false=>none
  |true=>match o with
   | .cells c ty fz=>bZ P n0 (k (n0+s.cnt)) { s with h:=(n0+s.cnt,.lit c.toList ty fz)::s.h,cnt:=s.cnt+1 }
   |o=>bZ P n0 (k (n0+s.cnt)) { s with h:=(n0+s.cnt,.obj o)::s.h,cnt:=s.cnt+1 }
 | .program k,s=>bZ P n0 (k P) s
 | .mark _ k,s=>bZ P n0 k s
 | .getObj r k,s=>match s.hints with
   | .o p::hs=>match s.h[p]? with
    |some (b,.obj o)=>match o with
     | .cells _ _ _=>none
     |o=>bZ P n0 (k o) { s with hints:=hs,eq:=(r,b)::s.eq }
    |_=>none
   |_=>none
 | .setObj r o k,s=>match s.hints with
   | .o p::hs=>match s.h[p]?,s.wr with
    |some (b,.obj o'),true=>match o' with
     | .cells _ _ _=>none
     |_=>bZ P n0 k { s with h:=aO s.h p (b,.obj o),hints:=hs,eq:=(r,b)::s.eq }
    |_,_=>none
   |_=>none
 |_,_=>none
theorem xr{cs:List Value}{v:Value}(ha:a.block=b)(hs:a.spot=none)(h:W.heap[b]?=some (Blk.lit cs ty fz).den) :
  (W.setCell a v).heap[b]?=some (Blk.lit (aO cs a.off v) ty fz).den:=by
 subst ha;simp only[World.setCell,ada,if_true,h,abK,Blk.den,hs,Option.isSome_none,ad4,if_false,oB];simp
theorem vO{w:Nat}{v:Value}(ha:a.block=b)(hs:a.spot=none)(ho:a.off=i*w+k)(hi:i<n)(hk:k<w)
  (h:W.heap[b]?=some (Blk.rows w n g ty fz).den):(W.setCell a v).heap[b]?=some (Blk.rows w n (cF g i k v) ty fz).den:=by
 subst ha;simp only[World.setCell,ada,if_true,h,abK,Blk.den,hs,Option.isSome_none,ad4,if_false,<- Az hi hk,ho];simp
theorem dw{s:Sem α}:∀ (ss z_:SS) (x:α),bZ P n0 s ss=some (x,z_)->(∀p∈ss.eq,p∈z_.eq)/\(∀p∈ss.ob,p∈z_.ob)/\z_.r=ss.r/\z_.wr=ss.wr:=by
 induction s with
 |pure a=>intro ss z_ x h;rw[bZ] at h;cases h;exact⟨λ _ h=>h,λ _ h=>h,rfl,rfl⟩
 |load m a k ih=>
  intro ss z_ x h;rw[bZ] at h;split at h
  case h_5=>cases h
  all_goals
   split at h
   case h_2=>cases h
   split at h
   case h_2=>cases h
   obtain⟨h1,h2,h3⟩:=ih _ _ _ _ h;exact⟨λ p hp=>h1 p (aaE _ hp),λ p hp=>h2 p (by first|exact hp|exact aaE _ hp),h3⟩
 |store m a v k ih=>
  intro ss z_ x h;rw[bZ.eq_def] at h;dsimp only at h;split at h
  ·cases h
  ·cases h
  ·split at h
   case h_3=>cases h
   all_goals
    split at h
    case h_2=>cases h
    split at h
    case h_2=>cases h
    split at h
    ·cases h
    obtain⟨h1,h2,h3⟩:=ih _ _ _ h;exact⟨λ p hp=>h1 p (aaE _ hp),λ p hp=>h2 p (by first|exact hp|exact aaE _ hp),h3⟩
 |new o k ih=>
  intro ss z_ x h;rw[bZ.eq_def] at h;dsimp only at h;split at h
  ·cases h
  split at h <;> (have h1:=ih _ _ _ _ h;exact h1)
 |program k ih=>intro ss z_ x h;rw[bZ] at h;exact ih _ _ _ _ h
 |mark m k ih=>intro ss z_ x h;rw[bZ] at h;exact ih _ _ _ h
 |getObj r k ih=>
  intro ss z_ x h;rw[bZ.eq_def] at h;dsimp only at h;split at h
  case h_2=>cases h
  split at h
  case h_2=>cases h
  split at h
  ·cases h
  obtain⟨h1,h2,h3⟩:=ih _ _ _ _ h;exact⟨λ p hp=>h1 p (aaE _ hp),h2,h3⟩
 |setObj r o k ih=>
  intro ss z_ x h;rw[bZ.eq_def] at h;dsimp only at h;split at h
  case h_2=>cases h
  split at h
  case h_2=>cases h
  split at h
  ·cases h
  obtain⟨h1,h2,h3⟩:=ih _ _ _ h;exact⟨λ p hp=>h1 p (aaE _ hp),h2,h3⟩
 |_=>intro ss z_ x h;simp[bZ] at h
theorem CG{s:Sem α}:∀ (ss z_:SS) (x:α),bZ P n0 s ss=some (x,z_)->ss.wr=false->z_.h=ss.h:=by
 induction s with
 |pure a=>intro ss z_ x h _;rw[bZ] at h;cases h;rfl
 |load m a k ih=>
  intro ss z_ x h hw;rw[bZ] at h;split at h
  case h_5=>cases h
  all_goals
   split at h
   case h_2=>cases h
   split at h
   case h_2=>cases h
   exact(ih _ _ _ _ h hw :)
 |store m a v k ih=>
  intro ss z_ x h hw;rw[bZ.eq_def] at h;dsimp only at h;split at h
  ·cases h
  ·cases h
  ·split at h
   case h_3=>cases h
   all_goals
    split at h
    case h_2=>cases h
    split at h
    case h_2=>cases h
    split at h
    ·cases h
    rename_i e;rw[hw] at e;cases e
 |new o k ih=>
  intro ss z_ x h hw;rw[bZ.eq_def] at h;dsimp only at h;split at h
  ·cases h
  rename_i e;rw[hw] at e;cases e
 |program k ih=>intro ss z_ x h hw;rw[bZ] at h;exact ih _ _ _ _ h hw
 |mark m k ih=>intro ss z_ x h hw;rw[bZ] at h;exact ih _ _ _ h hw
 |getObj r k ih=>
  intro ss z_ x h hw;rw[bZ.eq_def] at h;dsimp only at h;split at h
  case h_2=>cases h
  split at h
  case h_2=>cases h
  split at h
  ·cases h
  exact(ih _ _ _ _ h hw :)
 |setObj r o k ih=>
  intro ss z_ x h hw;rw[bZ.eq_def] at h;dsimp only at h;split at h
  case h_2=>cases h
  split at h
  case h_2=>cases h
  rename_i e;rw[hw] at e;cases e
 |_=>intro ss z_ x h;simp[bZ] at h
theorem oC{cs:List Value}{v:Value}(h:w.heap[b]?=some (Blk.lit cs ty fz).den)(ha:a.block=b)(hs:a.spot=none)(hv:cs[a.off]?=some v):w.cell? a=some v:=by
 subst ha;simp[World.cell?,h,Blk.den,hs,hv]
theorem jU{w:Nat}(h:W.heap[b]?=some (Blk.rows w n g ty fz).den)(ha:a.block=b)(hs:a.spot=none)(ho:a.off=i*w+k)(hi:i<n)(hk:k<w):W.cell? a=some (g i k):=by
 subst ha;simp[World.cell?,h,Blk.den,hs,ho,nK hi hk]
theorem ub{bl:Blk}(h:w.heap[b]?=some bl.den)(ha:a.block=b)(hz:match bl with | .lit _ _ fz=>fz.2=0 | .rows _ _ _ _ fz=>fz.2=0 | .obj _=>False):w.frozen? a=false:=by
 subst ha;cases bl with
 |lit cs ty fz=>obtain⟨lo,hi⟩:=fz;simp only at hz;subst hz;simp[World.frozen?,h,Blk.den]
 |rows w n g ty fz=>obtain⟨lo,hi⟩:=fz;simp only at hz;subst hz;simp[World.frozen?,h,Blk.den]
 |obj o=>exact hz.elim
theorem ud{m:Mode}{v u:Value}{k:Sem α}(h1:∀cs,v≠ .agg cs)(h2:∀cs,v≠ .tuple cs)(hc:w.cell? a=some u)(hf:w.frozen? a=false):(Sem.store m a v k).run P w=k.run P (w.setCell a v):=by
 rw[ab8];cases v <;> first|exact absurd rfl (h1 _)|exact absurd rfl (h2 _)|simp[hc,hf]
theorem nL{F:HL}{s:Sem α}:∀ (ss z_:SS) (x:α) (w:World),bZ P n0 s ss=some (x,z_)->
  (∀p∈z_.eq,p.1=p.2)->(∀p∈z_.ob,p)->Rel (ss.h++F) w->(∀y∈ss.r,y∈F)->(ss.wr=true->n0+ss.cnt=w.heap.size)->
  ∃w',s.run P w=.ok x w'/\Rel (z_.h++F) w'/\Below 0 w w'/\(ss.wr=true->n0+z_.cnt=w'.heap.size)/\(ss.wr=false->w'=w):=by
 induction s with
 |pure a=>intro ss z_ x w h _ _ hR _ hn;rw[bZ] at h;cases h;exact⟨w,rfl,hR,go _ _,hn,λ _=>rfl⟩
 |load m a k ih=>
  intro ss z_ x w h heq iD hR hr hn;rw[bZ] at h;have X6:∀ (p b:Nat) (bl:Blk),ss.h[p]?=some (b,bl)->w.heap[b]?=some bl.den:=λ p b bl hp=>hR.holds (b,bl) (aaC _ (np hp));have Vy:∀ (p b:Nat) (bl:Blk),ss.r[p]?=some (b,bl)->w.heap[b]?=some bl.den:=λ p b bl hp=>hR.holds (b,bl) (aaB _ (hr _ (np hp)));split at h
  case h_5=>cases h
  ·split at h
   case h_2=>cases h
   rename_i hp;split at h
   case h_2=>cases h
   obtain⟨k1,k2,k3⟩:=dw _ _ _ h;rename_i v hs hv;have hc:=oC (X6 _ _ _ hp) (heq _ (k1 _ (aaD))) hs hv;obtain⟨w',h1,h2,h3,h4,h5⟩:=ih _ _ _ _ w h heq iD hR hr hn;exact⟨w',by rw[Sem.run,hc];exact h1,h2,h3,h4,h5⟩
  ·split at h
   case h_2=>cases h
   rename_i hp;split at h
   case h_2=>cases h
   obtain⟨k1,k2,k3⟩:=dw _ _ _ h;rename_i hs hv;obtain⟨o1,o2⟩:=iD _ (k2 _ (aaD));have hc:=jU (X6 _ _ _ hp) (heq _ (k1 _ (aaD))) hs o1 o2 (by simpa using hv);obtain⟨w',h1,h2,h3,h4,h5⟩:=ih _ _ _ _ w h heq iD hR hr hn;exact⟨w',by rw[Sem.run,hc];exact h1,h2,h3,h4,h5⟩
  ·split at h
   case h_2=>cases h
   rename_i hp;split at h
   case h_2=>cases h
   obtain⟨k1,k2,k3⟩:=dw _ _ _ h;rename_i v hs hv;have hc:=oC (Vy _ _ _ hp) (heq _ (k1 _ (aaD))) hs hv;obtain⟨w',h1,h2,h3,h4,h5⟩:=ih _ _ _ _ w h heq iD hR hr hn;exact⟨w',by rw[Sem.run,hc];exact h1,h2,h3,h4,h5⟩
  ·split at h
   case h_2=>cases h
   rename_i hp;split at h
   case h_2=>cases h
   obtain⟨k1,k2,k3⟩:=dw _ _ _ h;rename_i hs hv;obtain⟨o1,o2⟩:=iD _ (k2 _ (aaD));have hc:=jU (Vy _ _ _ hp) (heq _ (k1 _ (aaD))) hs o1 o2 (by simpa using hv);obtain⟨w',h1,h2,h3,h4,h5⟩:=ih _ _ _ _ w h heq iD hR hr hn;exact⟨w',by rw[Sem.run,hc];exact h1,h2,h3,h4,h5⟩
 |store m a v k ih=>
  intro ss z_ x w h heq iD hR hr hn;rw[bZ.eq_def] at h;dsimp only at h;split at h
  ·cases h
  ·cases h
  ·rename_i hv1 hv2;have X6:∀ (p b:Nat) (bl:Blk),ss.h[p]?=some (b,bl)->w.heap[b]?=some bl.den:=λ p b bl hp=>hR.holds (b,bl) (aaC _ (np hp));split at h
   case h_3=>cases h
   ·split at h
    case h_2=>cases h
    rename_i hp;split at h
    case h_2=>cases h
    rename_i hs g_ hz;split at h
    ·cases h
    rename_i XW;obtain⟨k1,k2,k3⟩:=dw _ _ _ h;have ha:=heq _ (k1 _ (aaD));have aba:a.off<_:=aa9 g_;have hc:=oC (X6 _ _ _ hp) ha hs (aaP aba);have hf:=ub (X6 _ _ _ hp) ha (by simpa using hz);have By:=hR.store (v:=v) hp ha (λ W hW=>xr ha hs hW);obtain⟨w',h1,h2,h3,h4,-⟩:=ih _ _ _ (w.setCell a v) h heq iD By hr (λ e=>by simpa [World.setCell] using hn e);exact⟨w',by rw[ud (λ cs e=>hv1 cs e) (λ cs e=>hv2 cs e) hc hf];exact h1,h2,((go 0 w).setCell (aaJ _) v).trans h3,h4,λ e=>by rw[XW] at e;cases e⟩
   ·split at h
    case h_2=>cases h
    rename_i hp;split at h
    case h_2=>cases h
    rename_i hs g_ hz;split at h
    ·cases h
    rename_i XW;obtain⟨k1,k2,k3⟩:=dw _ _ _ h;have ha:=heq _ (k1 _ (aaD));obtain⟨o1,o2⟩:=iD _ (k2 _ (aaD));have hk:_<_:=aa9 g_;have hc:=jU (X6 _ _ _ hp) ha hs o1 o2 hk;have hf:=ub (X6 _ _ _ hp) ha (by simpa using hz);have By:=hR.store (v:=v) hp ha (λ W hW=>vO ha hs o1 o2 hk hW);obtain⟨w',h1,h2,h3,h4,-⟩:=ih _ _ _ (w.setCell a v) h heq iD By hr (λ e=>by simpa [World.setCell] using hn e);exact⟨w',by rw[ud (λ cs e=>hv1 cs e) (λ cs e=>hv2 cs e) hc hf];exact h1,h2,((go 0 w).setCell (aaJ _) v).trans h3,h4,λ e=>by rw[XW] at e;cases e⟩
 |new o k ih=>
  intro ss z_ x w h heq iD hR hr hn;rw[bZ.eq_def] at h;dsimp only at h;have hb:∀o':Obj,Below 0 w { w with heap:=w.heap.push o' }:=λ o'=>⟨rfl,rfl,rfl,by simp,λ k hk=>by omega⟩;split at h
  ·cases h
  rename_i XW
  replace hn:=hn XW
  split at h
  ·rename_i c ty fz;have By:=hR.cons (.lit c.toList ty fz) (o:=.cells c ty fz) (by simp[Blk.den]);rw[<- hn] at By;obtain⟨w',h1,h2,h3,h4,-⟩:=ih _ _ _ _ _ h heq iD By hr (λ _=>by simp;omega);refine⟨w',?_,h2,(hb _).trans h3,h4,λ e=>by rw[XW] at e;cases e⟩;rw[Sem.run,<- hn];exact h1
  ·have By:=hR.cons (.obj o) (o:=o) rfl;rw[<- hn] at By;obtain⟨w',h1,h2,h3,h4,-⟩:=ih _ _ _ _ _ h heq iD By hr (λ _=>by simp;omega);refine⟨w',?_,h2,(hb _).trans h3,h4,λ e=>by rw[XW] at e;cases e⟩;rw[Sem.run,<- hn];exact h1
 |program k ih=>
  intro ss z_ x w h heq iD hR hr hn;rw[bZ] at h;obtain⟨w',h1,h2,h3,h4,h5⟩:=ih _ _ _ _ w h heq iD hR hr hn;exact⟨w',by rw[Sem.run];exact h1,h2,h3,h4,h5⟩
 |mark m k ih=>
  intro ss z_ x w h heq iD hR hr hn;rw[bZ] at h;obtain⟨w',h1,h2,h3,h4,h5⟩:=ih _ _ _ w h heq iD hR hr hn;exact⟨w',by rw[Sem.run];exact h1,h2,h3,h4,h5⟩
 |getObj r k ih=>
  intro ss z_ x w h heq iD hR hr hn;rw[bZ.eq_def] at h;dsimp only at h;split at h
  case h_2=>cases h
  split at h
  case h_2=>cases h
  rename_i hp;split at h
  ·cases h
  rename_i o Wj;obtain⟨k1,k2,k3⟩:=dw _ _ _ h;have ha:=heq _ (k1 _ (aaD));simp only at ha;have hb:=hR.holds _ (aaC _ (np hp));simp only[Blk.den] at hb;obtain⟨w',h1,h2,h3,h4,h5⟩:=ih _ _ _ _ w h heq iD hR hr hn;refine⟨w',?_,h2,h3,h4,h5⟩;rw[ab8];simp only[ha,hb];exact h1
 |setObj r o k ih=>
  intro ss z_ x w h heq iD hR hr hn;rw[bZ.eq_def] at h;dsimp only at h;split at h
  case h_2=>cases h
  split at h
  case h_2=>cases h
  rename_i hp XW;split at h
  ·cases h
  rename_i o' Wj;obtain⟨k1,k2,k3⟩:=dw _ _ _ h;have ha:=heq _ (k1 _ (aaD));simp only at ha;have hb:=hR.holds _ (aaC _ (np hp));simp only[Blk.den] at hb;have g_:=bX hb;have By:=hR.upd (w':={ w with heap:=w.heap.setIfInBounds r o }) (bl':=.obj o) hp (by
   subst ha;show (w.heap.setIfInBounds r o)[r]?=_;rw[lv g_];rfl) (λ k' hk=>by
   subst ha;show (w.heap.setIfInBounds r o)[k']?=_;rw[WP (λ e=>hk e.symm)])
  have VL:Below 0 w { w with heap:=w.heap.setIfInBounds r o }:=⟨rfl,rfl,rfl,by simp,λ k hk=>by omega⟩;obtain⟨w',h1,h2,h3,h4,-⟩:=ih _ _ _ { w with heap:=w.heap.setIfInBounds r o } h heq iD By hr (λ e=>by simpa using hn e);refine⟨w',?_,h2,VL.trans h3,h4,λ e=>by rw[XW] at e;cases e⟩;rw[ab8];simp only[ha,hb];rw[ha] at h1;exact h1
 |_=>intro ss z_ x w h;simp[bZ] at h
end
section
variable {D:List Deferred} {N n0:Nat} {P:Program} {a:Act} {i:TypeInfo} {kt t:TypeId} {o:Oper} {ss z_:SS} {α:Type} {ρ:Operand->Value}
abbrev FL:=List (Nat×Value)
structure Fm(N:Nat)(D:List Deferred)(L:FL)(a:Act):Prop where
 size:a.tmps.size=N
 defs:a.defers=D
 has:∀t v,L.lookup t=some v->a.tmps[t]?=some v
def eY(L:FL):Operand->Value
 | .tmp t=>(L.lookup t).getD undef
 | .const v=>v
 | .global g=>.pointer (some ⟨g,0,none⟩)
 | .func f=>.func (.func f) #[] #[]
def gm(L:FL):Operand->Bool
 | .tmp t=>(L.lookup t).isSome
 |_=>true
theorem Fm.eval{L:FL}(h:Fm N D L a){x:Operand}(hx:gm L x=true):a.eval x=eY L x:=by
 cases x with
 |tmp t=>
  simp only[gm,aco] at hx;obtain⟨v,hv⟩:=hx;simp[Act.eval,eY,hv,h.has t v hv]
 |_=>rfl
def bW:Op->Option (List Operand)
 | .alloc _=>some []
 | .move x | .assign x | .box _ x | .load _ x | .nilCheck x | .unOp _ _ x | .convert _ _ x | .sliceToArrayPointer _ x | .makeInterface _ x | .fieldAddr _ x _ | .field _ x _ | .typeAssert x _ _ _ | .extract x _ | .range _ x | .next x _=>some [x]
 | .pick c a b=>some [c,a,b]
 | .build _ ps | .buildSlice _ _ ps=>some (ps.toList.map (·.2))
 | .store _ a v | .binOp _ _ a v _ | .makeSlice _ a v | .indexAddr _ a v | .index _ a v | .lookup _ a v _=>some [a,v]
 | .makeFunc _ first captured=>some (first.toList++captured.toList)
 | .makeMap _ r=>some r.toList
 | .slice _ x l h m=>some (x::(l.toList++(h.toList++m.toList)))
 | .mapUpdate _ m k v=>some [m,k,v]
 | .insert _ m k v=>some [m,k,v]
 | .call c=>some ((match c.callee with | .value f=>[f] | .invoke r _=>[r] | .builtin _=>[])++c.args.toList)
 |_=>none
theorem ue{o:Op}{l:List Operand}(h:bW o=some l):(∀x∈o.operands,x∈l)/\∀cs b,o≠ .select cs b:=by
 cases o <;> simp only[bW,de,reduceCtorEq] at h <;> subst h <;> refine⟨?_,by simp⟩ <;> intro x hx <;> simp[Op.operands,Call.operands] at hx ⊢ <;>
  first
   |done
   |exact hx
   | (rename_i c;obtain⟨callee,args,ats⟩:=c;cases callee <;> simp_all)
   |skip
def iX(o:Op)(L:FL):Bool:=match bW o with
 |some l=>l.all (gm L)
 |none=>false
theorem Fm.exec{L:FL}(h:Fm N D L a)(ho:iX o.op L=true):execOp a.eval o=execOp (eY L) o:=by
 unfold iX at ho;split at ho
 ·rename_i l hl;obtain⟨h1,h2⟩:=ue hl;exact execOp_congr o h2 λ x hx=>h.eval (ady.1 ho x (h1 x hx))
 ·cases ho
def dK(N:Nat)(dst:Option Tmp)(v:Value)(L:FL):Option FL:=match dst with
 |none=>some L
 |some d=>match decide (d<N) with
  |true=>some ((d,v)::L)
  |false=>none
theorem Fm.put{L L':FL}(h:Fm N D L a){dst:Option Tmp}{v:Value}(hp:dK N dst v L=some L'):Fm N D L' (a.put dst v):=by
 unfold dK at hp;cases dst with
 |none=>cases hp;exact h
 |some d=>
  simp only at hp;split at hp
  ·rename_i hd;cases hp;have Xb:d<N:=aa9 hd;refine⟨by simp[Act.put,h.size],h.defs,?_⟩;intro t u ht;simp only[Act.put];rw[acT] at ht
   by_cases e:t=d
   ·subst e;simp at ht;subst ht;rw[lv (by rw[h.size];exact Xb)]
   ·rw[WP (λ e'=>e e'.symm)];have:(t == d)=false:=by simpa using e
    rw[this] at ht;exact h.has t u ht
  ·cases hp
def uf(keys:List Nat)(L:FL):Option FL:=match keys with
 | []=>some []
 |t::ks=>match L.lookup t,uf ks L with
  |some v,some l=>some ((t,v)::l)
  |_,_=>none
theorem oD{L:FL}:∀ {keys:List Nat} {L':FL},uf keys L=some L'->∀t v,L'.lookup t=some v->L.lookup t=some v
 | [],L',h,t,v,hl=>by rw[uf] at h;cases h;cases hl
 |k::ks,L',h,t,v,hl=>by
  rw[uf] at h;split at h
  ·rename_i u l hu hp;cases h;rw[acT] at hl
   by_cases e:t=k
   ·subst e;simp at hl;subst hl;exact hu
   ·have:(t == k)=false:=by simpa using e
    rw[this] at hl;exact oD hp t v hl
  ·cases h
theorem Fm.pick{L L':FL}(h:Fm N D L a){keys:List Nat}(hp:uf keys L=some L'):Fm N D L' a :=
 ⟨h.size,h.defs,λ t v ht=>h.has t v (oD hp t v ht)⟩
def tK(a:Addr)(n:Nat):Addr:=⟨a.block,a.off+n,none⟩
theorem gO{a:Addr}(h:a.spot=none)(n:Nat):a.add n=tK a n:=by
 unfold Addr.add tK;split
 ·subst n;cases a;simp at h;subst h;rfl
 ·rfl
def Eb(ρ:Operand->Value)(x:Option Operand)(n d:Nat):Prop:=match x with
 |some v=>match ρ v with
  | .int _ z=>z=(n:Int)
  |_=>False
 |none=>n=d
theorem iY{lo hi:Option Operand}{l h len cap:Nat}(o1:Eb ρ lo l 0)(o2:Eb ρ hi h len)(o3:l<=h)(o4:h<=cap)(W:World) :
  (Instr.sliceBounds true len cap (lo.map ρ) (hi.map ρ) none).run P W=.ok (l,h,cap) W:=by
 have b1:∀ (k:IntKind) (y n:Nat) (c:BoundsCode),n<=y->(Instr.sliceBound (.int k (n:Int)) y c).run P W=.ok n W:=by
  intro k y n c hny;simp[Instr.sliceBound,asIntOf,hny,go_sem]
 have g:∀ (x:Option Operand) (n d:Nat),Eb ρ x n d->(x=none/\n=d)\/∃v k,x=some v/\ρ v=.int k (n:Int):=by
  intro x n d hb;cases x with
  |none=>exact .inl ⟨rfl,hb⟩
  |some v=>
   right;unfold Eb at hb;simp only at hb;cases hv:ρ v <;> rw[hv] at hb <;> simp only at hb
   exact⟨v,_,rfl,by rw[hv,hb]⟩
 unfold Instr.sliceBounds;rcases g _ _ _ o1 with ⟨rfl,rfl⟩|⟨v,k,rfl,hv⟩ <;> rcases g _ _ _ o2 with ⟨rfl,rfl⟩|⟨v',k',rfl,hv'⟩
 ·simp[aa8]
 ·simp[aa8,hv',b1,o4]
 ·simp[aa8,hv,b1,o3]
 ·simp[aa8,hv,hv',b1,o3,o4]
def CH(P:Program)(t:TypeId)(cs:Array Value)(off:Nat):Option Value:=match P.underlying t with
 |some (.struct _)=>match P.info? t with
  |some i=>some (.agg (cs.extract off (off+i.size)))
  |none=>none
 |some (.array _ _)=>match P.info? t with
  |some i=>some (.agg (cs.extract off (off+i.size)))
  |none=>none
 |some _=>cs[off]?
 |none=>none
def QP(P:Program)(rec:TypeId->Value->Value->Option Bool)(xs ys:Array Value):List Field->Option Bool
 | []=>some true
 | f :: fs=>match decide (f.name="_") with
  |true=>QP P rec xs ys fs
  |false=>match CH P f.type xs f.offset,CH P f.type ys f.offset with
   |some a,some b=>match rec f.type a b,QP P rec xs ys fs with
    |some r,some r'=>some (r && r')
    |_,_=>none
   |_,_=>none
def QE(P:Program):Nat->TypeId->Value->Value->Option Bool
 |0,_,_,_=>none
 |d+1,t,x,y=>match P.underlying t,x,y with
  |some (.int _),.int k a,.int k' b=>match decide (k=k') with
   |true=>some (decide (a=b))
   |false=>none
  |some .bool,.bool a,.bool b=>some (a == b)
  |some (.struct fs),.agg xs,.agg ys=>match P.stoodInHeld t with
   |false=>QP P (QE P d) xs ys fs.toList
   |true=>none
  |_,_,_=>none
theorem xt{cs:Array Value}{off:Nat}{v:Value}(h:CH P t cs off=some v)(w:World):(part t cs off).run P w=.ok v w:=by
 have und:∀d,P.underlying t=some d->∀W,(underlying t).run P W=.ok d W:=λ d hd W=>by simp[underlying,program,bind,Sem.bind,Sem.run,hd,pure]
 have inf:∀i,P.info? t=some i->∀W,(typeInfo t).run P W=.ok i W:=λ i hd W=>by simp[typeInfo,program,bind,Sem.bind,Sem.run,hd,pure]
 unfold CH at h;split at h
 ·rename_i fs hu;split at h
  ·rename_i i hi;cases h;simp[part,isAgg,aa8,und _ hu,sizeOf,inf _ hi]
  ·cases h
 ·rename_i n e hu;split at h
  ·rename_i i hi;cases h;simp[part,isAgg,aa8,und _ hu,sizeOf,inf _ hi]
  ·cases h
 ·rename_i d h1 h2 hu;have hag:(isAgg t).run P w=.ok false w:=by
   unfold isAgg;rw[aa8,und _ hu];simp only[aa7];cases d <;> first|rfl|exact(h1 _ rfl).elim|exact(h2 _ _ rfl).elim
  simp[part,aa8,hag,h]
 ·cases h
theorem CI{P:Program}:∀ (d:Nat) (t:TypeId) (x y:Value) (b:Bool) (w:World),QE P d t x y=some b->(Op.equalIn d t x y).run P w=.ok b w
 |0,t,x,y,b,w,h=>by simp[QE] at h
 |d+1,t,x,y,b,w,h=>by
  unfold QE at h;split at h
  case h_1=>
   rename_i k1 k a k' b' hu;split at h
   ·rename_i hk;cases h;have:k=k':=aa9 hk;subst this;rw[run_equalIn_int w d t k k1 a b' hu];rfl
   ·cases h
  case h_2=>
   rename_i a b' hu;cases h;exact run_equalIn_bool' w d t a b' hu
  case h_3=>
   rename_i fs xs ys hu;split at h
   ·rename_i hs;have hf:P.fieldsOf t=fs:=by simp[Program.fieldsOf,hu]
    rw[run_equalIn_agg w d t xs ys (by rw[hf];exact hu) hs,hf];revert h;generalize fs.toList=l;clear hu hf
    induction l generalizing b with
    |nil=>intro h;simp[QP] at h;subst h;simp[Op.eqFields]
    |cons f fs ih=>
     intro h;rw[QP] at h;split at h
     ·rename_i hn;have hn':f.name="_":=aa9 hn;rw[Op.eqFields,if_neg (by simp[hn'])];exact ih _ h
     ·rename_i hn;have hn':¬ f.name="_":=of_decide_eq_false hn;split at h
      ·rename_i u v hu hv;split at h
       ·rename_i r r' hr Z_;cases h;rw[Op.eqFields,if_pos hn'];simp only[aa8,xt hu,xt hv,aa7,CI d _ _ _ _ w hr];cases r
        ·simp
        ·simpa using ih _ Z_
       ·cases h
      ·cases h
   ·cases h
  case h_4=>cases h
def GQ(s:ByteArray)(j:Nat):Int:=((s[j]?).getD 0).toNat
theorem oE(k:Program->Sem α)(w:World):((program >>=k):Sem α).run P w=(k P).run P w:=rfl
theorem cO(h:P.info? t=some i)(w:World):(typeInfo t).run P w=.ok i w:=by
 simp[typeInfo,program,bind,Sem.bind,Sem.run,h,pure]
theorem aG{i:TypeDesc}(h:P.underlying t=some i)(w:World):(underlying t).run P w=.ok i w:=by
 simp[underlying,program,bind,Sem.bind,Sem.run,h,pure]
theorem GR{a b:ByteArray}:(a == b)=true↔a=b:=by
 obtain⟨a⟩:=a;obtain⟨b⟩:=b;show (a == b)=true↔_;simp
theorem LY{a:ByteArray}:(a == a)=true:=GR.2 rfl
def xu:Nat->List (ByteArray×Value)->List MapEntry
 |_,[]=>[]
 |i,(k,v)::l=>{ key:=.string k,val:=v,born:=i }::xu (i+1) l
abbrev GS(kv:List (ByteArray×Value)):Obj:=.map ⟨xu 0 kv⟩ kv.length
def vQ:List (ByteArray×Value)->ByteArray->Option Value
 | [],_=>none
 | (k',v)::l,k=>if (k == k')=true then some v else vQ l k
def AA:List (ByteArray×Value)->ByteArray->Nat->Option (Nat×Value)
 | [],_,_=>none
 | (k',v)::l,k,i=>if (k == k')=true then some (i,v) else AA l k (i+1)
theorem ug(k:ByteArray):∀ (kv:List (ByteArray×Value)) (b i:Nat),Instr.findNow .string (.string k) (xu b kv) i=some (AA kv k i)
 | [],_,_=>rfl
 | (k',v)::l,b,i=>by
  rw[xu,Instr.findNow,AA];simp only[Instr.sameNow];cases h:(k == k') with
  |true=>simp
  |false=>simp[ug k l (b+1) (i+1)]
theorem xv(k:ByteArray):∀ (kv:List (ByteArray×Value)) (i:Nat),(AA kv k i).map (·.2)=vQ kv k
 | [],_=>rfl
 | (k',v)::l,i=>by
  rw[AA,vQ];split
  ·rfl
  ·exact xv k l (i+1)
theorem Ec(hk:P.underlying kt=some .string)(k:ByteArray)(kv:List (ByteArray×Value))(b:Nat)(w:World):(Instr.findKey kt (.string k) (xu b kv)).run P w=.ok (AA kv k 0) w:=by
 unfold Instr.findKey;rw[aa8,aG hk];simp only[Result.andThen,ug];rfl
theorem AC(hk:P.underlying kt=some .string)(e:Bool)(k:ByteArray)(w:World):(Instr.checkKey e 10000 kt (.string k)).run P w=.ok () w:=by
 rw[show (10000:Nat)=9999+1 from rfl,Instr.checkKey.eq_def];simp only;rw[aa8,aG hk];rfl
theorem ci(a:α)(w:World):((pure a:Sem α)).run P w=.ok a w:=rfl
theorem gx{w:World}{r:Nat}{es:Array MapEntry}{c:Nat}(h:w.heap[r]?=some (.map es c)):(getObj r).run P w=.ok (.map es c) w:=by
 unfold getObj;rw[ab8];simp only[h];rfl
theorem AD{w:World}{et:TypeId}{b:Nat}{kv:List (ByteArray×Value)}{k:ByteArray}{z:Value}(ok:Bool)(ht:P.underlying t=some (.map kt et))(hk:P.underlying kt=some .string)(hi:P.info? et=some i)(hz:i.zero=some z)(hb:w.heap[b]?=some (GS kv)) :
  (Instr.lookup t (.map (some b)) (.string k) ok).run P w=.ok (if ok=true then .tuple #[(vQ kv k).getD z,.bool (vQ kv k).isSome] else (vQ kv k).getD z) w:=by
 unfold Instr.lookup;rw[aa8,aG ht];simp only[Result.andThen,aa8,gx hb,ci,AC hk,Ec hk];rw[<- xv k kv 0];cases h:AA kv k 0 with
 |some x=>
  obtain⟨j,v⟩:=x;cases ok <;> rfl
 |none=>
  simp only[zeroValue,aa8,cO hi,Result.andThen,hz,ci];cases ok <;> rfl
abbrev lkV(kv:List (ByteArray×Value))(k:ByteArray)(ok:Bool)(z:Value):Value:=if ok=true then .tuple #[(vQ kv k).getD z,.bool (vQ kv k).isSome] else (vQ kv k).getD z
theorem GT(a b:ByteArray):(a.toList == b.toList)=decide (a=b):=by
 rw[ByteArray.toList_eq,ByteArray.toList_eq,Bool.eq_iff_iff,decide_eq_true_iff,beq_iff_eq];constructor
 ·intro h;exact ByteArray.ext (aea.mp h)
 ·rintro rfl;rfl
def ev(P:Program)(n0:Nat)(o:Oper)(ρ:Operand->Value)(s:SS):Option (Next×SS) :=
 match o.op with
 | .indexAddr t x ix=>match s.hints with
  | .ix j::hs=>match P.underlying t,ρ x,ρ ix with
   |some (.slice elem),.slice (some a) len _,.int _ i=>match a.spot,P.info? elem with
    |none,some inf=>some (.value (.pointer (some (tK a (j*inf.size)))),{ s with hints:=hs,ob:=(i=(j:Int)/\j<len)::s.ob })
    |_,_=>none
   |some (.array len elem),.pointer (some a),.int _ i=>match a.spot,P.info? elem with
    |none,some inf=>some (.value (.pointer (some (tK a (j*inf.size)))),{ s with hints:=hs,ob:=(i=(j:Int)/\j<len)::s.ob })
    |_,_=>none
   |_,_,_=>none
  | .gen::hs=>bZ P n0 (execOp ρ o) { s with hints:=hs }
  |_=>bZ P n0 (execOp ρ o) s
 | .binOp op t x y _=>match s.hints with
  | .nw::hs=>match op,ρ x,ρ y with
   | .add,.int .i64 a,.int .i64 b=>some (.value (.int .i64 (a+b)),{ s with hints:=hs,ob:=(-9223372036854775808<=a+b/\a+b<=9223372036854775807)::s.ob })
   | .sub,.int .i64 a,.int .i64 b=>some (.value (.int .i64 (a-b)),{ s with hints:=hs,ob:=(-9223372036854775808<=a-b/\a-b<=9223372036854775807)::s.ob })
   | .mul,.int .i64 a,.int .i64 b=>some (.value (.int .i64 (a*b)),{ s with hints:=hs,ob:=(-9223372036854775808<=a*b/\a*b<=9223372036854775807)::s.ob })
   | .quo,.int .i64 a,.int .i64 b=>some (.value (.int .i64 (a/b)),{ s with hints:=hs,ob:=(0<=a/\0<b/\a<=9223372036854775807)::s.ob })
   | .rem,.int .i64 a,.int .i64 b=>some (.value (.int .i64 (a%b)),{ s with hints:=hs,ob:=(0<=a/\0<b/\a<=9223372036854775807)::s.ob })
   |_,_,_=>none
  | .dv::hs=>match op,ρ x,ρ y with
   | .quo,.int .i64 a,.int .i64 b=>some (.value (.int .i64 (i64.wrap (a.tdiv b))),{ s with hints:=hs,ob:=(b≠0)::s.ob })
   | .rem,.int .i64 a,.int .i64 b=>some (.value (.int .i64 (a.tmod b)),{ s with hints:=hs,ob:=(b≠0)::s.ob })
   | .shl,.int k a,.int _ b=>some (.value (.int k (k.wrap (a*2 ^ min b.toNat k.bits))),{ s with hints:=hs,ob:=(0<=b)::s.ob })
   | .shr,.int k a,.int _ b=>some (.value (.int k (a.fdiv (2 ^ min b.toNat k.bits))),{ s with hints:=hs,ob:=(0<=b)::s.ob })
   |_,_,_=>none
  | .sq::hs=>match op,ρ x,ρ y with
   | .eql,.agg xs,.agg ys=>match P.eqGuardType P.depth t,QE P 10000 t (.agg xs) (.agg ys) with
    |false,some b=>some (.value (.bool b),{ s with hints:=hs })
    |_,_=>none
   | .neq,.agg xs,.agg ys=>match P.eqGuardType P.depth t,QE P 10000 t (.agg xs) (.agg ys) with
    |false,some b=>some (.value (.bool (!b)),{ s with hints:=hs })
    |_,_=>none
   | .eql,.string a,.string b=>some (.value (.bool (decide (a=b))),{ s with hints:=hs })
   | .neq,.string a,.string b=>some (.value (.bool (!decide (a=b))),{ s with hints:=hs })
   |_,_,_=>none
  | .gen::hs=>bZ P n0 (execOp ρ o) { s with hints:=hs }
  |_=>bZ P n0 (execOp ρ o) s
 | .index t x ix=>match s.hints with
  | .ix j::hs=>match P.underlying t,ρ x,ρ ix with
   |some .string,.string b,.int _ i=>some (.value (.int .u8 (GQ b j)),{ s with hints:=hs,ob:=(i=(j:Int)/\j<b.size)::s.ob })
   |_,_,_=>none
  | .gen::hs=>bZ P n0 (execOp ρ o) { s with hints:=hs }
  |_=>bZ P n0 (execOp ρ o) s
 | .unOp op t x=>match s.hints with
  | .nw::hs=>match op,ρ x with
   | .neg,.int .i64 a=>some (.value (.int .i64 (-a)),{ s with hints:=hs,ob:=(-9223372036854775807<=a/\a<=9223372036854775808)::s.ob })
   |_,_=>none
  | .gen::hs=>bZ P n0 (execOp ρ o) { s with hints:=hs }
  |_=>bZ P n0 (execOp ρ o) s
 | .slice t x lo hi mx=>match s.hints with
  | .sl l h e::hs=>match P.underlying t,ρ x,mx with
   |some (.slice elem),.slice a len cap,none=>match a,P.info? elem with
    |none,some inf=>some (.value (.slice none (h-l) (cap-l)),{ s with hints:=hs,ob:=(Eb ρ lo l 0/\Eb ρ hi h len/\l<=h/\h<=cap)::s.ob })
    |some a,some inf=>match a.spot with
     |none=>some (.value (.slice (some (match e with|true=>a|false=>tK a (l*inf.size))) (h-l) (cap-l)),{ s with hints:=hs,ob:=(Eb ρ lo l 0/\Eb ρ hi h len/\l<=h/\h<=cap/\(match e with|true=>cap=l|false=>cap≠l))::s.ob })
     |_=>none
    |_,_=>none
   |_,_,_=>none
  | .gen::hs=>bZ P n0 (execOp ρ o) { s with hints:=hs }
  | .sl0 h::hs=>match P.underlying t,ρ x,lo,mx with
   |some (.slice elem),.slice a len cap,none,none=>match P.info? elem with
    |some inf=>some (.value (.slice a h cap),{ s with hints:=hs,ob:=(Eb ρ hi h len/\h<=cap)::s.ob })
    |none=>none
   |_,_,_,_=>none
  |_=>bZ P n0 (execOp ρ o) s
 | .makeSlice t x y=>match s.hints with
  | .mk l c::hs=>match P.underlying t,ρ x,ρ y with
   |some (.slice elem),.int .i64 a,.int .i64 b=>match P.info? elem with
    |some inf=>match inf.zero,s.wr with
     |some z,true=>some (.value (.slice (some ⟨n0+s.cnt,0,none⟩) l c),{ s with h:=(n0+s.cnt,.rows inf.size c (λ _ k=>z.cells.getD k default) elem (0,0))::s.h,cnt:=s.cnt+1,hints:=hs,ob:=(a=(l:Int)/\b=(c:Int)/\l<=c/\inf.bytes*c<=140737488355328/\z.cells.size=inf.size/\c<=9223372036854775807)::s.ob })
     |_,_=>none
    |none=>none
   |_,_,_=>none
  | .gen::hs=>bZ P n0 (execOp ρ o) { s with hints:=hs }
  |_=>bZ P n0 (execOp ρ o) s
 | .pick x a b=>match s.hints with
  | .gd c::hs=>match ρ x with
   | .bool t=>some (.value (match c with|true=>ρ a|false=>ρ b),{ s with hints:=hs,ob:=(t=c)::s.ob })
   |_=>none
  | .gen::hs=>bZ P n0 (execOp ρ o) { s with hints:=hs }
  |_=>bZ P n0 (execOp ρ o) s
 | .lookup t x ix ok=>match s.hints with
  | .mp p kv v::hs=>match P.underlying t,ρ x,ρ ix,s.h[p]? with
   |some (.map kt et),.map (some b),.string k,some (b',.obj O)=>match P.underlying kt,(P.info? et).bind (·.zero) with
    |some .string,some z=>some (.value v,{ s with hints:=hs,eq:=(b,b')::s.eq,ob:=(O=GS kv/\lkV kv k ok z=v)::s.ob })
    |_,_=>none
   |_,_,_,_=>none
  | .mq p kv v::hs=>match P.underlying t,ρ x,ρ ix,s.r[p]? with
   |some (.map kt et),.map (some b),.string k,some (b',.obj O)=>match P.underlying kt,(P.info? et).bind (·.zero) with
    |some .string,some z=>some (.value v,{ s with hints:=hs,eq:=(b,b')::s.eq,ob:=(O=GS kv/\lkV kv k ok z=v)::s.ob })
    |_,_=>none
   |_,_,_,_=>none
  | .gen::hs=>bZ P n0 (execOp ρ o) { s with hints:=hs }
  |_=>bZ P n0 (execOp ρ o) s
 |_=>bZ P n0 (execOp ρ o) s
theorem dz{x:Next}(h:ev P n0 o ρ ss=some (x,z_)):(∀p∈ss.eq,p∈z_.eq)/\(∀p∈ss.ob,p∈z_.ob)/\z_.r=ss.r/\z_.wr=ss.wr:=by
 unfold ev at h
 repeat' split at h
 all_goals first
  |exact(dw _ _ _ h :)
  | (cases h;done)
  | (cases h;exact⟨λ _ h=>h,λ _ h=>aaE _ h,rfl,rfl⟩)
  | (cases h;exact⟨λ _ h=>aaE _ h,λ _ h=>aaE _ h,rfl,rfl⟩)
  | (cases h;exact⟨λ _ h=>h,λ _ h=>h,rfl,rfl⟩)
theorem xw(z:Array Value)(c:Nat):((Array.range (c*z.size)).map λ i=>z[i%z.size]!)=⟨bq z.size (λ _ k=>z.getD k default) c⟩:=by
 apply Array.ext';rw[acl,ad5];show _=bq _ _ _
 symm
 refine iW (by simp) ?_;intro i k hi hk;have h1:i*z.size+k<c*z.size:=by
  have:(i+1)*z.size<=c*z.size:=ab0 _ hi;rw[acB] at this;omega
 rw[abf,acG h1];simp only[abK,Nat.mul_add_mod_self_right,aeb hk];simp[getElem!_def,Array.getD,hk,getElem?_pos]
theorem gQ{F:HL}{x:Next}{w:World}(h:ev P n0 o ρ ss=some (x,z_))
  (heq:∀p∈z_.eq,p.1=p.2) (iD:∀p∈z_.ob,p) (hR:Rel (ss.h++F) w) (hr:∀y∈ss.r,y∈F) (hn:ss.wr=true->n0+ss.cnt=w.heap.size) :
  ∃w',(execOp ρ o).run P w=.ok x w'/\Rel (z_.h++F) w'/\Below 0 w w'/\(ss.wr=true->n0+z_.cnt=w'.heap.size)/\(ss.wr=false->w'=w):=by
 have g:∀hs:List Hint,bZ P n0 (execOp ρ o) { ss with hints:=hs }=some (x,z_)->∃w',(execOp ρ o).run P w=.ok x w'/\Rel (z_.h++F) w'/\Below 0 w w'/\(ss.wr=true->n0+z_.cnt=w'.heap.size)/\(ss.wr=false->w'=w):=λ hs h=>by
  have h1:=nL (F:=F) (w:=w) _ _ _ h heq iD hR hr hn;exact h1
 have g':bZ P n0 (execOp ρ o) ss=some (x,z_)->∃w',(execOp ρ o).run P w=.ok x w'/\Rel (z_.h++F) w'/\Below 0 w w'/\(ss.wr=true->n0+z_.cnt=w'.heap.size)/\(ss.wr=false->w'=w):=λ h=>by
  exact nL (F:=F) (w:=w) _ _ _ h heq iD hR hr hn
 unfold ev at h;split at h
 ·-- indexAddr
  rename_i t x' ix' ID;split at h
  case h_2=>exact g _ h
  case h_3=>exact g' h
  split at h
  ·rename_i elem a len cap k i hu hx hi;split at h
   case h_2=>cases h
   rename_i inf hs VA;cases h;obtain⟨o1,o2⟩:=iD _ (aaD);refine⟨w,?_,hR,go _ _,hn,λ _=>rfl⟩;subst o1;simp[execOp,ID,Instr.indexAt,hx,hi,asIntOf,underlying,hu,sizeOf,typeInfo,VA,oE,go_sem,gO hs,o2,program,bind,Sem.bind,Sem.run,pure]
  ·rename_i len elem a k i hu hx hi;split at h
   case h_2=>cases h
   rename_i inf hs VA;cases h;obtain⟨o1,o2⟩:=iD _ (aaD);refine⟨w,?_,hR,go _ _,hn,λ _=>rfl⟩;subst o1;simp[execOp,ID,Instr.indexAt,hx,hi,asIntOf,underlying,hu,sizeOf,typeInfo,VA,oE,go_sem,gO hs,o2,program,bind,Sem.bind,Sem.run,pure,Instr.sureAddr]
  ·cases h
 ·-- binOp
  rename_i op t x' y' ty ID;split at h
  case h_4=>exact g _ h
  case h_5=>exact g' h
  case h_3=>
   split at h
   case h_5=>cases h
   case h_3=>
    rename_i a b hx hy;cases h;exact⟨w,by simp[execOp,ID,hx,hy,eqGuard,Go.binOp,Op.stringOp,GT,pure,bind,Sem.bind,Sem.run],hR,go _ _,hn,λ _=>rfl⟩
   case h_4=>
    rename_i a b hx hy;cases h;exact⟨w,by simp[execOp,ID,hx,hy,eqGuard,Go.binOp,Op.stringOp,GT,bne,pure,bind,Sem.bind,Sem.run],hR,go _ _,hn,λ _=>rfl⟩
   all_goals
    rename_i xs ys hx hy;split at h
    case h_2=>cases h
    rename_i b hg he;cases h;refine⟨w,?_,hR,go _ _,hn,λ _=>rfl⟩;have e2:=λ W=>CI _ _ _ _ _ W he;simp[execOp,ID,hx,hy,aa8,run_eqGuard_agg w _ t x' y' xs ys hg,run_eql_struct,run_neq_struct,e2]
  ·split at h
   case h_6=>cases h
   case h_4=>
    rename_i a b hx hy;cases h;obtain⟨o1,o2,o3⟩:=iD _ (aaD);refine⟨w,?_,hR,go _ _,hn,λ _=>rfl⟩;have h1:a/b<=a:=Int.ediv_le_self _ o1;have h2:0<=a/b:=Int.ediv_nonneg o1 (by omega);have hw:i64.wrap (a.tdiv b)=a/b:=by rw[ad0 o1,IntKind.wrap_i64];omega
    have o4:¬ b=0:=by omega
    simp[execOp,ID,hx,hy,eqGuard,Go.binOp,Op.intDiv,o4,hw,pure,bind,Sem.bind,Sem.run]
   case h_5=>
    rename_i a b hx hy;cases h;obtain⟨o1,o2,o3⟩:=iD _ (aaD);refine⟨w,?_,hR,go _ _,hn,λ _=>rfl⟩;have hw:a.tmod b=a%b:=Int.tmod_eq_emod_of_nonneg o1;have o4:¬ b=0:=by omega
    simp[execOp,ID,hx,hy,eqGuard,Go.binOp,Op.intDiv,o4,hw,pure,bind,Sem.bind,Sem.run]
   all_goals
    rename_i a b hx hy;cases h;have o1:=iD _ (aaD);refine⟨w,?_,hR,go _ _,hn,λ _=>rfl⟩;have hw:∀z:Int,-9223372036854775808<=z/\z<=9223372036854775807->i64.wrap z=z:=λ z hz=>by rw[IntKind.wrap_i64];omega
    simp[execOp,ID,hx,hy,eqGuard,Go.binOp,Op.intArith,hw _ o1,pure,bind,Sem.bind,Sem.run]
  ·split at h
   case h_5=>cases h
   case h_3=>
    rename_i k a yk b hx hy;cases h;have o1:¬ b<0:=by have:0<=b:=iD _ (aaD);omega
    refine⟨w,?_,hR,go _ _,hn,λ _=>rfl⟩;simp[execOp,ID,hx,hy,eqGuard,Go.binOp,Op.shift,o1,pure,bind,Sem.bind,Sem.run]
   case h_4=>
    rename_i k a yk b hx hy;cases h;have o1:¬ b<0:=by have:0<=b:=iD _ (aaD);omega
    refine⟨w,?_,hR,go _ _,hn,λ _=>rfl⟩;simp[execOp,ID,hx,hy,eqGuard,Go.binOp,Op.shift,o1,pure,bind,Sem.bind,Sem.run]
   all_goals
    rename_i a b hx hy;cases h;have o1:b≠0:=iD _ (aaD);refine⟨w,?_,hR,go _ _,hn,λ _=>rfl⟩;simp[execOp,ID,hx,hy,eqGuard,Go.binOp,Op.intDiv,o1,pure,bind,Sem.bind,Sem.run]
 ·-- index
  rename_i t x' ix' ID;split at h
  case h_2=>exact g _ h
  case h_3=>exact g' h
  split at h
  case h_2=>cases h
  rename_i b k i hu hx hi;cases h;obtain⟨o1,o2⟩:=iD _ (aaD);refine⟨w,?_,hR,go _ _,hn,λ _=>rfl⟩;subst o1;have k3:=λ W=>aG hu W;simp[execOp,ID,Instr.index,hx,hi,asIntOf,k3,aa8,o2,GQ]
 ·-- unOp
  rename_i op t x' ID;split at h
  case h_2=>exact g _ h
  case h_3=>exact g' h
  split at h
  case h_2=>cases h
  rename_i a hx;cases h;have o1:=iD _ (aaD);refine⟨w,?_,hR,go _ _,hn,λ _=>rfl⟩;have hw:i64.wrap (-a)=-a:=by rw[IntKind.wrap_i64];omega
  simp[execOp,ID,hx,Op.unary,Op.intArith,hw,pure,bind,Sem.bind,Sem.run]
 ·-- slice
  rename_i t x' lo hi mx ID;split at h
  case h_2=>exact g _ h
  case h_4=>exact g' h
  case h_3=>
   rename_i hh hs ZF;split at h
   case h_2=>cases h
   rename_i elem a len cap hu hx;split at h
   case h_2=>cases h
   rename_i inf VA;cases h;obtain⟨o2,o4⟩:=iD _ (aaD);refine⟨w,?_,hR,go _ _,hn,λ _=>rfl⟩;have k1:=iY (P:=P) (ρ:=ρ) (lo:=none) (hi:=hi) (l:=0) (h:=hh) (len:=len) (cap:=cap) rfl o2 (aaJ _) o4 w;have k2:=λ W=>cO VA W;have k3:=λ W=>aG hu W;have ea:(if cap=0 then a else Option.map (λ x=>x.add 0) a)=a:=by
    split
    ·rfl
    ·cases a <;> simp[Addr.add]
   rw[show Option.map ρ none=none from rfl] at k1;simp[execOp,ID,Instr.sliceAt,Instr.slice,hx,k3,sizeOf,k2,aa8,k1,ea]
  rename_i l hh e hs ZF;split at h
  case h_2=>cases h
  rename_i elem a len cap hu hx;split at h
  case h_3=>cases h
  ·rename_i inf VA;cases h;obtain⟨o1,o2,o3,o4⟩:=iD _ (aaD);refine⟨w,?_,hR,go _ _,hn,λ _=>rfl⟩;have k1:=iY (P:=P) o1 o2 o3 o4 w;have k2:=λ W=>cO VA W;have k3:=λ W=>aG hu W;simp[execOp,ID,Instr.sliceAt,Instr.slice,hx,k3,sizeOf,k2,aa8,k1]
  ·rename_i a inf VA;split at h
   case h_2=>cases h
   rename_i XD;cases h;obtain⟨o1,o2,o3,o4,o5⟩:=iD _ (aaD);refine⟨w,?_,hR,go _ _,hn,λ _=>rfl⟩;have k1:=iY (P:=P) o1 o2 o3 o4 w;have k2:=λ W=>cO VA W;have k3:=λ W=>aG hu W;cases e
   ·simp only at o5 ⊢;simp[execOp,ID,Instr.sliceAt,Instr.slice,hx,k3,sizeOf,k2,aa8,k1,o5,gO XD]
   ·simp only at o5 ⊢;subst o5;simp[execOp,ID,Instr.sliceAt,Instr.slice,hx,k3,sizeOf,k2,aa8,k1]
 ·-- makeSlice
  rename_i t x' y' ID;split at h
  case h_2=>exact g _ h
  case h_3=>exact g' h
  rename_i l c hs ZF;split at h
  case h_2=>cases h
  rename_i elem a b hu hx hy;split at h
  case h_2=>cases h
  rename_i inf VA;split at h
  case h_2=>cases h
  rename_i z hz XW;cases h
  replace hn:=hn XW
  obtain⟨o1,o2,o3,o4,o5,o6⟩:=iD _ (aaD);subst o1;subst o2;have hl:i64.wrap (l:Int)=l:=by rw[IntKind.wrap_i64];omega
  have hc:i64.wrap (c:Int)=c:=by rw[IntKind.wrap_i64];omega
  have By:=hR.cons (.rows inf.size c (λ _ k=>z.cells.getD k default) elem (0,0)) (o:=.cells ⟨bq inf.size (λ _ k=>z.cells.getD k default) c⟩ elem (0,0)) rfl;rw[<- hn] at By;refine⟨_,?_,By,⟨rfl,rfl,rfl,by simp,λ k hk=>by omega⟩,λ _=>by simp;omega,λ e=>by rw[XW] at e;cases e⟩;have af5:¬ ((281474976710656:Int)<(inf.bytes:Int)*(c:Int)):=by
   have:((inf.bytes*c:Nat):Int)=(inf.bytes:Int)*(c:Int):=by simp
   rw[<- this];omega
  have AT:¬ (roomBytes<c*inf.bytes):=by unfold roomBytes;rw[ad2];omega
  have hlc:¬ ((c:Int)<l):=by omega
  have Yo:¬ ((l:Int)<0):=by omega
  have hc0:¬ ((c:Int)<0):=by omega
  have k2:=λ W=>cO VA W;have k3:=λ W=>aG hu W
  by_cases h0:c*inf.size=0
  ·have he:∀g,bq inf.size g c=[]:=λ g=>by
    apply aaU;rw[cm];exact h0
   have hr0:∀f:Nat->Value,Array.map f (Array.range 0)=⟨[]⟩:=λ f=>by simp
   simp[execOp,ID,Instr.makeSlice,hx,hy,k3,sizeOf,k2,zeroValue,hz,aa8,asInt,asIntOf,hl,hc,af5,AT,hlc,Yo,hc0,h0,askRoom,newRow,newObj,he,hr0,Sem.run,hn]
  ·have hzf:=xw z.cells c;rw[o5] at hzf;simp[execOp,ID,Instr.makeSlice,hx,hy,k3,sizeOf,k2,zeroValue,hz,aa8,asInt,asIntOf,hl,hc,af5,AT,hlc,Yo,hc0,h0,askRoom,newRow,newObj,Sem.run,hn,o5,hzf]
 ·-- pick
  rename_i x' a' b' ID;split at h
  case h_2=>exact g _ h
  case h_3=>exact g' h
  split at h
  case h_2=>cases h
  rename_i t ht;cases h;have o1:=iD _ (aaD);refine⟨w,?_,hR,go _ _,hn,λ _=>rfl⟩;subst o1;cases t <;> simp[execOp,ID,ht,asBool]
 ·-- lookup
  rename_i t x' ix' ok ID;split at h
  case h_3=>exact g _ h
  case h_4=>exact g' h
  all_goals
   split at h
   case h_2=>cases h
   rename_i kt et b k b' O hu hx hi hp;split at h
   case h_2=>cases h
   rename_i z hk hz;cases h;obtain⟨o1,o2⟩:=iD _ (aaD);have e1:b=b':=heq _ (aaD);subst o1;subst e1;subst o2;rw[Option.bind_eq_some_iff] at hz;obtain⟨inf,VA,hz⟩:=hz;refine⟨w,?_,hR,go _ _,hn,λ _=>rfl⟩;have hb:w.heap[b]?=some (GS _):=hR.holds (b,.obj (GS _)) (by first|exact aaC _ (np hp)|exact aaB _ (hr _ (np hp)));have:=AD (P:=P) (w:=w) (k:=k) ok hu hk VA hz hb;simp only[execOp,ID,hx,hi,aa8,this,Result.andThen];rfl
 ·exact g' h
end
section
variable {A H H' H1:HL} {D:List Deferred} {E:List Nat} {K:Act->HL->Prop} {L:FL} {N i id j n n0:Nat} {Ob:List Prop} {P:Program} {R:Value->World->Prop} {Ts:List HL} {a a':Act} {args:Array Value} {b:Frame} {fn:Func} {hints:List Hint} {k:List Item} {listed:Array Bool} {o:Oper} {rs:List ResultVar} {s s':SS} {w:World} (ip ir jp jr:List Nat)
def jA(ops:List Oper)(o:Oper)(L:FL)(s:SS):Option (Bool×SS):=match o.guard with
 |none=>some (true,s)
 |some (j,want)=>match (ops[j]?).bind (·.dst) with
  |some d=>match L.lookup d with
   |some (.bool b)=>match s.hints with
    | .gd c::hs=>some (c == want,{ s with hints:=hs,ob:=(b=c)::s.ob })
    | .gen::hs=>some (b == want,{ s with hints:=hs })
    |_=>some (b == want,s)
   |some (.tuple _)=>some (false,s)
   |_=>none
  |none=>none
theorem b6{ops:Array Oper}{b:Bool}(h:jA ops.toList o L s=some (b,s'))(hF:Fm N D L a)(iD:∀p∈s'.ob,p) :
  Region.wanted o (yielded ops a.tmps)=b/\s'.h=s.h/\s'.cnt=s.cnt:=by
 unfold jA at h;unfold Region.wanted;split at h
 ·rename_i hg;cases h;rw[hg];exact⟨rfl,rfl,rfl⟩
 ·rename_i j want hg;rw[hg];simp only;split at h
  case h_2=>cases h
  rename_i d hd;have Xb:(ops[j]?).bind (·.dst)=some d:=by simpa using hd
  split at h
  ·rename_i x hx;have hy:yielded ops a.tmps j=some x:=by unfold yielded;rw[Xb];simp[hF.has _ _ hx]
   split at h
   ·cases h;have:=iD _ (aaD);subst this;rw[hy];exact⟨by simp,rfl,rfl⟩
   ·cases h;rw[hy];exact⟨by simp,rfl,rfl⟩
   ·cases h;rw[hy];exact⟨by simp,rfl,rfl⟩
  ·rename_i x hx;cases h;have hy:yielded ops a.tmps j=none:=by unfold yielded;rw[Xb];simp[hF.has _ _ hx]
   rw[hy];exact⟨rfl,rfl,rfl⟩
  ·cases h
theorem bE{ops:List Oper}{b:Bool}(h:jA ops o L s=some (b,s')):(∀p∈s.eq,p∈s'.eq)/\(∀p∈s.ob,p∈s'.ob)/\s'.r=s.r/\s'.wr=s.wr:=by
 unfold jA at h
 repeat' split at h
 all_goals first
  | (cases h;done)
  | (cases h;exact⟨λ _ h=>h,λ _ h=>h,rfl,rfl⟩)
  | (cases h;exact⟨λ _ h=>h,λ _ h=>aaE _ h,rfl,rfl⟩)
def xx(P:Program)(n0 N:Nat)(ops:List Oper):List Oper->FL->SS->Option (FL×SS)
 | [],L,s=>some (L,s)
 |o::rest,L,s=>match jA ops o L s with
  |none=>none
  |some (false,s)=>match dK N o.dst undef L with
   |some L=>xx P n0 N ops rest L s
   |none=>none
  |some (true,s)=>match iX o.op L with
   |false=>none
   |true=>match ev P n0 o (eY L) s with
    |some (.value v,s)=>match dK N o.dst v L with
     |some L=>xx P n0 N ops rest L s
     |none=>none
    |some (.skip,s)=>match dK N o.dst undef L with
     |some L=>xx P n0 N ops rest L s
     |none=>none
    |_=>none
theorem mw{P:Program}{n0 N:Nat}{ops:List Oper}:∀ (l:List Oper) (L L':FL) (s s':SS),xx P n0 N ops l L s=some (L',s')->(∀p∈s.eq,p∈s'.eq)/\(∀p∈s.ob,p∈s'.ob)/\s'.r=s.r
 | [],L,L',s,s',h=>by rw[xx] at h;cases h;exact⟨λ _ h=>h,λ _ h=>h,rfl⟩
 |o::rest,L,L',s,s',h=>by
  rw[xx] at h;split at h
  ·cases h
  ·rename_i s1 hw;split at h
   case h_2=>cases h
   obtain⟨a1,a2,a3,a4⟩:=bE hw;obtain⟨b1,b2,b3⟩:=mw rest _ _ _ _ h;exact⟨λ p hp=>b1 p (a1 p hp),λ p hp=>b2 p (a2 p hp),b3.trans a3⟩
  ·rename_i s1 hw;split at h
   ·cases h
   obtain⟨a1,a2,a3,a4⟩:=bE hw;split at h
   ·rename_i v s2 he;split at h
    case h_2=>cases h
    obtain⟨c1,c2,c3,c4⟩:=dz he;obtain⟨b1,b2,b3⟩:=mw rest _ _ _ _ h;exact⟨λ p hp=>b1 p (c1 p (a1 p hp)),λ p hp=>b2 p (c2 p (a2 p hp)),b3.trans (c3.trans a3)⟩
   ·rename_i s2 he;split at h
    case h_2=>cases h
    obtain⟨c1,c2,c3,c4⟩:=dz he;obtain⟨b1,b2,b3⟩:=mw rest _ _ _ _ h;exact⟨λ p hp=>b1 p (c1 p (a1 p hp)),λ p hp=>b2 p (c2 p (a2 p hp)),b3.trans (c3.trans a3)⟩
   ·cases h
def Wr(r:Option Nat):Fence:={ fn:=λ _=>True,depth:=none,alive:=false,round:=r }
theorem jV{r:Option Nat}{f:FuncId}{R:Ending->World->Prop}(h:Calls P f args w R):CallsIn (Wr r) n P f args w R:=(callsIn_wide (n:=n)).2 h
theorem xy{o:Op}(h:iX o L=true):∀c,o≠ .defer c:=by
 rintro c rfl;simp[iX,bW] at h
theorem Fm.sem{r:Option Nat}(h:Fm N D L a)(ho:iX o.op L=true):o.semAt (Wr r).round a.eval=execOp (eY L) o:=by
 rw[Oper.semAt_eq _ _ _ (xy ho),h.exec ho]
def AllP:List Prop->Prop
 | []=>True
 |p::l=>p/\AllP l
theorem AllP.mem:∀ {l:List Prop},AllP l->∀p∈l,p
 |_::_,h,p,hp=>by
  rcases abs.1 hp with rfl|hp
  ·exact h.1
  ·exact AllP.mem h.2 p hp
def TR(r:Option Nat)(P:Program)(N:Nat)(D:List Deferred)(F:HL)(w0:World)(L:FL)(H:HL)(c:Code)(Q:Exit->Act->World->Prop):Prop :=
 ∀a w,Fm N D L a->Rel (H++F) w->Below 0 w0 w->c.wpIn (Wr r) 0 P Q a w
def EX(N:Nat)(D:List Deferred)(F:HL)(w0:World)(L:FL)(H:HL)(Q:Exit->Act->World->Prop)(e:Exit):Prop :=
 ∀a w,Fm N D L a->Rel (H++F) w->Below 0 w0 w->Q e a w
theorem f6:∀ {l:List (Nat×Nat)} {E:List Nat},l.map (·.1)=E->l.map (·.2)=E->∀p∈l,p.1=p.2
 | [],_,_,_,p,hp=>by cases hp
 |q::l,E,h1,h2,p,hp=>by
  subst h1;simp only[ab7,aeh] at h2;rcases abs.1 hp with rfl|hp
  ·exact h2.1.symm
  ·exact f6 rfl h2.2 p hp
section
variable {r:Option Nat} {P:Program} {N:Nat} {D:List Deferred} {F:HL} {w0:World} {ops:Array Oper} {i:Nat} {L:FL} {H:HL} {Q:Exit->Act->World->Prop}
def Sp(P:Program)(f:FuncId)(args:Array Value)(H F:HL)(R:Value->HL->Prop):Prop :=
 ∀w,Rel (H++F) w->Calls P f args w λ e w'=>∃v H',e=.returned v/\R v H'/\Rel (H'++F) w'/\Below 0 w w'
theorem Sp.mono{f:FuncId}{R R':Value->HL->Prop}(h:Sp P f args H F R)(hr:∀v H',R v H'->R' v H'):Sp P f args H F R' :=
 λ w hR=>(h w hR).mono λ e w' ⟨v,H',h1,h2,h3,h4⟩=>⟨v,H',h1,hr _ _ h2,h3,h4⟩
end
def oG(P:Program)(n0 N:Nat)(ops:List Oper)(i:Nat)(L:FL)(H R:HL)(hints:List Hint):Option (Option Tmp×FuncId×Array Value×HL×List Nat×List Nat×List Prop) :=
 match ops[i]? with
 |none=>none
 |some o=>match jA ops o L ⟨H,R,hints,0,[],[],true⟩ with
  |some (true,s)=>match iX o.op L with
   |true=>match ev P n0 o (eY L) s with
    |some (.enter f args,s')=>match s'.hints with
     | []=>some (o.dst,f,args,s'.h,s'.eq.map (·.1),s'.eq.map (·.2),s'.ob)
     |_=>none
    |_=>none
   |false=>none
  |_=>none
section
variable {r:Option Nat} {P:Program} {N:Nat} {D:List Deferred} {F:HL} {w0:World} {ops:Array Oper} {i:Nat} {L:FL} {H:HL} {Q:Exit->Act->World->Prop}
theorem iZ{R:HL}{dst:Option Tmp}{f:FuncId}{E':List Nat}{l:List Oper}
  (h:oG P n0 N l i L H R hints=some (dst,f,args,H1,E,E',Ob)) :
  ∃o s s',l[i]?=some o/\jA l o L ⟨H,R,hints,0,[],[],true⟩=some (true,s)/\iX o.op L=true/\ev P n0 o (eY L) s=some (.enter f args,s')/\o.dst=dst/\s'.h=H1/\s'.eq.map (·.1)=E/\s'.eq.map (·.2)=E'/\s'.ob=Ob:=by
 unfold oG at h;split at h
 ·cases h
 ·rename_i o ho;split at h
  case h_2=>cases h
  rename_i s hs;split at h
  case h_2=>cases h
  rename_i dO;split at h
  case h_2=>cases h
  rename_i f' iS s' he;split at h
  case h_2=>cases h
  simp only[de,df] at h;obtain⟨e1,e2,e3,e4,e5,e6,e7⟩:=h;subst e2;subst e3;exact⟨o,s,s',ho,hs,dO,he,e1,e4,e5,e6,e7⟩
theorem TR.exit(h:EX N D F w0 L H Q (.exit id)):TR r P N D F w0 L H (.exit id) Q:=λ a w h1 h2 h3=>wpIn_exit (h a w h1 h2 h3)
theorem LZ(h:EX N D F w0 L H Q .ret):TR r P N D F w0 L H .ret Q:=λ a w h1 h2 h3=>wpIn_ret (h a w h1 h2 h3)
abbrev ap(A:HL)(Ts:List HL):HL:=A++Ts.flatten
theorem fU{α:Type}(l:List α){ip ir:List Nat}(hp:(ip++ir).isPerm (List.range l.length)=true):(ip.filterMap (l[·]?)++ir.filterMap (l[·]?)).Perm l:=by
 have h1:=(List.isPerm_iff.1 hp).filterMap (l[·]?);have h2:(List.range l.length).filterMap (l[·]?)=l:=by
  clear hp h1
  induction l with
  |nil=>rfl
  |cons x l ih=>
   rw[aaN,List.range_succ_eq_map,acK];simp only[acd,List.filterMap_map];congr 1
 rw[h2,List.filterMap_append] at h1;exact h1
theorem my(A:HL)(Ts:List HL){ip ir jp jr:List Nat}(hp:(ip++ir).isPerm (List.range A.length)=true)(hj:(jp++jr).isPerm (List.range Ts.length)=true) :
  (ap (ip.filterMap (A[·]?)) (jp.filterMap (Ts[·]?))++ap (ir.filterMap (A[·]?)) (jr.filterMap (Ts[·]?))).Perm (ap A Ts):=by
 have h1:=fU A hp;have h2:=(fU Ts hj).flatten;rw[adA] at h2;refine List.Perm.trans ?_ (List.Perm.append h1 h2);rw[aaF,aaF];refine abB _ ?_;rw[<- aaF,<- aaF];exact aaT _ aaS
theorem vR{B:HL}(As Bs:List HL)(C:HL):(ap A As++(ap B Bs++C)).Perm (ap (A++B) (As++Bs)++C):=by
 rw[<- aaF];refine aaT C ?_;show (A++As.flatten++(B++Bs.flatten)).Perm (A++B++(As++Bs).flatten);rw[adA,aaF,aaF];refine abB _ ?_;rw[<- aaF,<- aaF];exact aaT _ aaS
theorem Rel.takeT{F:HL}(hp:(ip++ir).isPerm (List.range A.length)=true)(hj:(jp++jr).isPerm (List.range Ts.length)=true)(e:ap (ip.filterMap (A[·]?)) (jp.filterMap (Ts[·]?))=H')(h:Rel (ap A Ts++F) w):Rel (H'++F) w:=by
 have h1:=h.perm ((my A Ts hp hj).append_right F);rw[aaF,e] at h1;exact h1.sub ((List.Sublist.refl _).append (List.sublist_append_right _ _))
theorem fV{P:Program}{c:Code}{cs:List Frame} :
  step P (lone (b.atR a (.code (.scope c)::k)) cs w)=.next (lone (b.atR a (.code c:: .inScope c::k)) cs w) :=
 step_lone_go (by simp[stepG,stepG.exec,Frame.atR])
theorem tL{P:Program}{c:Code}{cs:List Frame} :
  step P (lone (b.atR a (.inScope c::k)) cs w)=.next (lone (b.atR a k) cs w) :=
 step_lone_go (by simp[stepG,stepG.exec,Frame.atR])
theorem iB{Fe:Fence}{P:Program}{c:Code}{Q:Exit->Act->World->Prop}(h:c.wpIn Fe n P (Exit.noGoto Q) a w):(Code.scope c).wpIn Fe n P Q a w:=by
 intro b k cs Vy hb hr;have h0:(lone (b.atR a (.code (.scope c)::k)) cs w).fenced P Fe:=fenced_calm hb hr rfl;obtain⟨e,a₁,w₁,hq,o_⟩:=h b (.inScope c::k) cs Vy hb hr;cases e with
 |normal=>exact⟨.normal,a₁,w₁,hq,.head h0 fV (StepsIn.trans o_ (.one (fenced_calm hb hr rfl) tL))⟩
 |exit id=>exact⟨.exit id,a₁,w₁,hq,λ k' hk=>.head h0 fV (o_.1 k' (by simp[exitTo,hk])),λ aiu hk=>let ⟨k₁,h1,h2⟩:=o_.2 aiu (by simpa [exitTo] using hk);⟨k₁,h1,.head h0 fV h2⟩⟩
 |goto l=>exact hq.elim
 |ret=>exact⟨_,a₁,w₁,hq,.of_steps (.one h0 fV) o_⟩
 |panic ch=>exact⟨_,a₁,w₁,hq,.of_steps (.one h0 fV) o_⟩
 |outgrown=>exact⟨_,a₁,w₁,hq,.of_steps (.one h0 fV) o_⟩
abbrev vI(n:Int):Value:=.int .i64 n
abbrev vP(b o:Nat):Value:=.pointer (some ⟨b,o,none⟩)
abbrev vS(b o n c:Nat):Value:=.slice (some ⟨b,o,none⟩) n c
def vT(l:List Value):Nat->Nat->Value:=λ _ k=>(⟨l⟩:Array Value).getD k default
theorem ac{p:Prop}{l:List Prop}(h:p)(k:AllP l):AllP (p::l):=⟨h,k⟩
theorem an:AllP []:=trivial
theorem mc{F R:HL}{x:Nat×Blk}(h:x∈F)(k:∀y∈R,y∈F):∀y∈x::R,y∈F:=λ y hy=>by
 rcases abs.1 hy with rfl|hy
 ·exact h
 ·exact k y hy
theorem mn{F:HL}:∀y∈([]:HL),y∈F:=λ y hy=>by cases hy
def OS{σ:Type}(N:Nat)(D:List Deferred)(F:HL)(w0:World)(Lx:σ->FL)(Hx:σ->HL)(I:σ->Prop)(a:Act)(w:World):Prop :=
 ∃x,I x/\Fm N D (Lx x) a/\Rel (Hx x++F) w/\Below 0 w0 w
theorem TR.loop{σ:Type}(Lx:σ->FL)(Hx:σ->HL)(I:σ->Prop)(μ:σ->Nat){c:Code}(x0:σ)(hi:I x0)(keys:List Nat)(hL:uf keys L=some (Lx x0))(ip ir jp jr:List Nat)(hp:(ip++ir).isPerm (List.range A.length)=true)(hj:(jp++jr).isPerm (List.range Ts.length)=true)(hH:ap (ip.filterMap (A[·]?)) (jp.filterMap (Ts[·]?))=Hx x0)
  (round:∀x,I x->TR r P N D F w0 (Lx x) (Hx x) c (Exit.then (OS N D F w0 Lx Hx (λ x'=>I x'/\μ x'<μ x)) Q)):TR r P N D F w0 L (ap A Ts) (.loop c) Q:=by
 intro a w h1 h2 h3
 replace h2:=h2.takeT ip ir jp jr hp hj hH
 have key:∀n x,μ x<=n->I x->∀a w,Fm N D (Lx x) a->Rel (Hx x++F) w->Below 0 w0 w->∀ (b:Frame) (k:List Item) (cs:List Frame),b.roundOf=(Wr r).round->(Wr r).fn b.fn->(Wr r).room (cs.length+1+0)->∃e a' w',Q e a' w'/\ArrivesIn (Machine.fenced P (Wr r)) P (lone (b.atR a (.code c:: .inLoop c::k)) cs w) b k cs e a' w':=by
  intro n
  induction n using Nat.strongRecOn with
  |_ n ih=>
   intro x hn hI a w k1 k2 k3 b k cs Vy hb hr;obtain⟨e,a₁,w₁,hq,o_⟩:=round x hI a w k1 k2 k3 b (.inLoop c::k) cs Vy hb hr;cases e with
   |normal=>
    obtain⟨x',⟨hI',g_⟩,m1,m2,m3⟩:=hq;obtain⟨e₂,a₂,w₂,Xs,Vq⟩:=ih (μ x') (by omega) x' (aaI _) hI' a₁ w₁ m1 m2 m3 b k cs Vy hb hr;exact⟨e₂,a₂,w₂,Xs,.of_steps (StepsIn.trans o_ (.one (fenced_calm hb hr rfl) stepR_inLoop)) Vq⟩
   |exit id=>exact⟨_,a₁,w₁,hq,.pass (x:=.inLoop c) rfl (λ _ _=>.inl (by simp)) o_⟩
   |goto l=>exact⟨_,a₁,w₁,hq,.pass (x:=.inLoop c) rfl (λ _ _=>.inl (by simp)) o_⟩
   |ret=>exact⟨_,a₁,w₁,hq,.pass (x:=.inLoop c) rfl (λ _ _=>.inl (by simp)) o_⟩
   |panic ch=>exact⟨_,a₁,w₁,hq,.pass (x:=.inLoop c) rfl (λ _ _=>.inl (by simp)) o_⟩
   |outgrown=>exact⟨_,a₁,w₁,hq,.pass (x:=.inLoop c) rfl (λ _ _=>.inl (by simp)) o_⟩
 intro b k cs Vy hb hr;obtain⟨e,a',w',hq,o_⟩:=key _ x0 (aaI _) hi a w (h1.pick hL) h2 h3 b k cs Vy hb hr;exact⟨e,a',w',hq,.of_steps (.one (fenced_calm hb hr rfl) stepR_loop) o_⟩
def uh(F:HL)(w0:World)(R:Value->HL->Prop)(e:Ending)(w':World):Prop:=∃v H',e=.returned v/\R v H'/\Rel (H'++F) w'/\Below 0 w0 w'
def lI:Nat->List Value->FL
 |_,[]=>[]
 |n,v::l=>(n,v)::lI (n+1) l
theorem kI:∀ (n:Nat) (l:List Value) (t:Nat) (v:Value),(lI n l).lookup t=some v->n<=t/\l[t-n]?=some v
 |_,[],_,_,h=>by cases h
 |n,u::l,t,v,h=>by
  rw[lI,acT] at h
  by_cases e:t=n
  ·subst e;simp at h;subst h;simp
  ·have:(t == n)=false:=by simpa using e
   rw[this] at h;obtain⟨h1,h2⟩:=kI (n+1) l t v h;refine⟨by omega,?_⟩;have:t-n=(t-(n+1))+1:=by omega
   rw[this];simpa using h2
theorem AE{f:FuncId}{c:Code}{R:Value->HL->Prop}(hf:P.funcs[f]?=some fn)(hb:fn.body=some c)(hn:fn.ntmps=N)(ha:decide (args.size<=N)=true)
  {L:FL} (hL:lI 0 args.toList=L) (h:∀w0,TR none P N [] F w0 L H c (bodyPost P fn (uh F w0 R))):Sp P f args H F R:=by
 intro w hR;refine calls_of_wp hf hb ((wpIn_wide (n:=0)).1 ?_);have ha':args.size<=N:=aa9 ha;refine h w _ w ⟨?_,rfl,?_⟩ hR (go _ _)
 ·simp[hn];omega
 ·subst hL;intro t v ht;obtain⟨_,h2⟩:=kI 0 _ t v ht;have h3:args[t]?=some v:=by simpa using h2
  have g_:t<args.size:=(eb.1 h3).1;simp only;rw[ach g_];exact h3
def rD(P:Program)(n0:Nat)(L:FL):List ResultVar->SS->Option (List Value×SS)
 | [],s=>some ([],s)
 | .tmp t::l,s=>match L.lookup t with
  |some v=>match rD P n0 L l s with
   |some (vs,s)=>some (v::vs,s)
   |none=>none
  |none=>none
 | .cell t ty::l,s=>match L.lookup t with
  |some (.pointer (some a))=>match bZ P n0 (loadVar ty a) s with
   |some (v,s)=>match rD P n0 L l s with
    |some (vs,s)=>some (v::vs,s)
    |none=>none
   |none=>none
  |_=>none
def Th:List Value->Value
 | [v]=>v
 |vs=>.tuple ⟨vs⟩
def AF(P:Program)(n0:Nat)(L:FL)(rs:List ResultVar)(H R:HL)(hints:List Hint):Option (Value×List Nat×List Nat×List Prop) :=
 match rD P n0 L rs ⟨H,R,hints,0,[],[],false⟩ with
 |some (vs,s)=>match s.hints with
  | []=>some (Th vs,s.eq.map (·.1),s.eq.map (·.2),s.ob)
  |_=>none
 |none=>none
theorem nM{n0:Nat}:∀ (rs:List ResultVar) (s s':SS) (vs:List Value),rD P n0 L rs s=some (vs,s')->(∀p∈s.eq,p∈s'.eq)/\(∀p∈s.ob,p∈s'.ob)
 | [],s,s',vs,h=>by rw[rD] at h;cases h;exact⟨λ _ h=>h,λ _ h=>h⟩
 | .tmp t::l,s,s',vs,h=>by
  rw[rD] at h;split at h
  ·split at h
   ·rename_i hr;cases h;exact nM l _ _ _ hr
   ·cases h
  ·cases h
 | .cell t ty::l,s,s',vs,h=>by
  rw[rD] at h;split at h
  ·split at h
   ·rename_i ha;split at h
    ·rename_i hr;cases h;obtain⟨a1,a2,_⟩:=dw _ _ _ ha;obtain⟨b1,b2⟩:=nM l _ _ _ hr;exact⟨λ p hp=>b1 p (a1 p hp),λ p hp=>b2 p (a2 p hp)⟩
    ·cases h
   ·cases h
  ·cases h
def xz(tmps:Array Value):ResultVar->Sem Value
 | .tmp t=>pure (tmps.getD t undef)
 | .cell a t=>do loadVar t (<- asAddr (tmps.getD a undef))
theorem jW{n0:Nat}{a:Act}{w:World}(hF:Fm N D L a)(hR:Rel (H++F) w):∀ (rs:List ResultVar) (s s':SS) (vs:List Value),rD P n0 L rs s=some (vs,s')->s.wr=false->s.h=H->(∀y∈s.r,y∈F)->(s.wr=true->n0+s.cnt=w.heap.size)->
  (∀p∈s'.eq,p.1=p.2)->(∀p∈s'.ob,p)->(rs.mapM (xz a.tmps)).run P w=.ok vs w
 | [],s,s',vs,h,_,_,_,_,_,_=>by rw[rD] at h;cases h;rfl
 | .tmp t::l,s,s',vs,h,hw,hh,hr,hn,heq,iD=>by
  rw[rD] at h;split at h
  ·rename_i v hv;split at h
   ·rename_i UH s1 Z9;cases h;have ih:=jW hF hR l _ _ _ Z9 hw hh hr hn heq iD;rw[adQ,aa8];simp[xz,hF.has _ _ hv,aa8,ih]
   ·cases h
  ·cases h
 | .cell t ty::l,s,s',vs,h,hw,hh,hr,hn,heq,iD=>by
  rw[rD] at h;split at h
  ·rename_i ad hv;split at h
   ·rename_i v s1 ha;split at h
    ·rename_i UH s2 Z9;cases h;obtain⟨a1,a2,a3,a4⟩:=dw _ _ _ ha;obtain⟨b1,b2⟩:=nM l _ _ _ Z9;obtain⟨w1,e1,e2,e3,e4,e5⟩:=nL (F:=F) _ _ _ w ha (λ p hp=>heq p (b1 p hp)) (λ p hp=>iD p (b2 p hp)) (by rw[hh];exact hR) hr hn;obtain rfl:=e5 hw;have hh1:s1.h=H:=by rw[CG _ _ _ ha hw];exact hh
     have ih:=jW hF hR l _ _ _ Z9 (a4.trans hw) hh1 (by rw[a3];exact hr) (λ e=>e4 (a4.symm.trans e)) heq iD;rw[adQ,aa8];simp[xz,hF.has _ _ hv,aa8,asAddr,e1,ih]
    ·cases h
   ·cases h
  ·cases h
theorem jB(Xr:fn.results=⟨rs⟩){tmps:Array Value}{vs:List Value}(h:(rs.mapM (xz tmps)).run P w=.ok vs w):(results fn tmps).run P w=.ok (Th vs) w:=by
 have h1:(results fn tmps)=(do let vs <- (⟨rs⟩:Array ResultVar).mapM (xz tmps);pure (if h:vs.size=1 then vs[0] else .tuple vs)):=by
  unfold results;rw[Xr];congr 1
 rw[h1];have h2:(⟨rs⟩:Array ResultVar).mapM (xz tmps)=List.toArray <$> rs.mapM (xz tmps):=by simp
 rw[h2];have h3:((List.toArray <$> rs.mapM (xz tmps)):Sem (Array Value)).run P w=.ok ⟨vs⟩ w:=by
  rw[map_eq_pure_bind,aa8,h];rfl
 rw[aa8,h3]
 match vs with
 | []=>rfl
 | [v]=>rfl
 |v::u::l=>simp[Th]
theorem TR.ret{R:Value->HL->Prop}(hQ:∀a w,bodyPost P fn (uh F w0 R) .ret a w->Q .ret a w)(Xr:fn.results=⟨rs⟩)(hD:D=[])(Ro:HL)(hints:List Hint)(v:Value)(E:List Nat)(Ob:List Prop) (h:∀n0,AF P n0 L rs (ap A Ts) Ro hints=some (v,E,E,Ob)) (hRo:∀y∈Ro,y∈F) (iD:AllP Ob) (ip ir jp jr:List Nat) (H':HL) (hp:(ip++ir).isPerm (List.range A.length)=true) (hj:(jp++jr).isPerm (List.range Ts.length)=true) (hH:ap (ip.filterMap (A[·]?)) (jp.filterMap (Ts[·]?))=H') (hv:R v H'):TR r P N D F w0 L (ap A Ts) .ret Q:=by
 refine LZ ?_;intro a w hF hR hB;refine hQ a w ?_;have h':=h w.heap.size;unfold AF at h';split at h'
 case h_2=>cases h'
 rename_i vs s hs;split at h'
 case h_2=>cases h'
 simp only[de,df] at h';obtain⟨e1,e2,e3,e4⟩:=h';have f_:=jW (P:=P) hF hR rs _ _ _ hs rfl rfl hRo (λ e=>by cases e) (f6 e2 e3) (by rw[e4];exact AllP.mem iD);subst e1;exact⟨hF.defs.trans hD,_,jB Xr f_,_,H',rfl,hv,hR.takeT ip ir jp jr hp hj hH,hB⟩
theorem xA{f:FuncId}{v:Value}(h:∀w,Calls P f args w λ e w'=>e=.returned v/\w'=w)(F:HL):Sp P f args [] F (λ u H'=>u=v/\H'=[]):=λ w hR=>
 (h w).mono λ e w' ⟨h1,h2⟩=>⟨v,[],h1,⟨rfl,rfl⟩,by rw[h2];exact hR,by rw[h2];exact go _ _⟩
end
def cI(P:Program)(o:Oper)(a:Act)(w:World)(R:Value->World->Prop):Prop:=match (execOp a.eval o).run P w with
 | .ok (.value u) w'=>R u w'
 | .ok .skip w'=>R undef w'
 | .ok (.enter f args) w'=>Calls P f args w' fun
  | .returned u,w''=>R u w''
  |_,_=>False
 |_=>False
theorem dS{R':Value->World->Prop}(h:cI P o a w R)(hr:∀u w,R u w->R' u w):cI P o a w R':=by
 unfold cI at *;split at h
 ·exact hr _ _ h
 ·exact hr _ _ h
 ·exact h.mono λ e w he=>by cases e <;> first|exact hr _ _ he|exact he
 ·exact h
theorem dT{r:Option Nat}{K:Act->World->Prop}{Q:Exit->Act->World->Prop}(hd:∀c,o.op≠ .defer c)(h:cI P o a w R)(hk:∀u w',R u w'->K (a.put o.dst u) w') :
  o.uponIn (Wr r) 0 P a K Q ((o.semAt (Wr r).round a.eval).run P w):=by
 rw[Oper.semAt_eq _ _ _ hd];unfold cI at h;split at h
 ·rename_i u w' he;rw[he];exact hk _ _ h
 ·rename_i w' he;rw[he];exact hk _ _ h
 ·rename_i f args w' he;rw[he,Oper.uponIn_enter];exact⟨λ h=>(by cases h),jV (h.mono λ e w he=>by
   cases e with
   |returned u=>exact hk _ _ he
   |panicked _=>exact he.elim
   |outgrown=>exact he.elim)⟩
 ·exact h.elim
theorem rE(he:execOp a'.eval o=execOp a.eval o)(h:cI P o a w R):cI P o a' w R:=by
 unfold cI at *;rw[he];exact h
section
variable {P:Program} {ops:Array Oper} {Q:Exit->Act->World->Prop} {F:HL} {w0:World} {hards:List Nat} {Rd:HL}
def OPJ(P:Program)(ops:Array Oper)(F:HL)(w0:World)(hards:List Nat)(Rd:HL)(i:Nat)(a:Act)(H:HL)(K:Act->HL->Prop):Prop:=match ops[i]? with
 |none=>False
 |some o=>if Region.wanted o (yielded ops a.tmps)=true then
   ∀w,Rel (H++F) w->Below 0 w0 w->cI P o a w λ u w'=>∃H',((i∉hards->∃X,H'=X++H)/\(i∈hards->∀x∈Rd,x∈H'))/\K (a.put o.dst u) H'/\Rel (H'++F) w'/\Below 0 w0 w'
  else K (a.put o.dst undef) H
def Ti(Q:Exit->Act->World->Prop)(F:HL)(w0:World)(a:Act)(H:HL):Prop:=∀w,Rel (H++F) w->Below 0 w0 w->Q .normal a w
def JJ(P:Program)(ops:Array Oper)(Q:Exit->Act->World->Prop)(F:HL)(w0:World)(hards:List Nat)(Rd:HL):Nat->Array Bool->Act->HL->Prop
 |0,listed,a,H=>Region.ready .any ops listed=[]/\Ti Q F w0 a H
 |fuel+1,listed,a,H=>(Region.ready .any ops listed=[]->Ti Q F w0 a H)/\
  ∀i∈Region.ready .any ops listed,OPJ P ops F w0 hards Rd i a H (JJ P ops Q F w0 hards Rd fuel (listed.setIfInBounds i true))
def VO(P:Program)(ops:Array Oper)(F:HL)(w0:World)(o:Oper)(v:Value)(a:Act)(H:HL):Prop :=
 (Region.wanted o (yielded ops a.tmps)=true/\∀X w,Rel (X++(H++F)) w->Below 0 w0 w->cI P o a w λ u w'=>u=v/\Rel (X++(H++F)) w'/\Below 0 w0 w')\/
 (Region.wanted o (yielded ops a.tmps)=false/\v=undef)
theorem VO.same{v:Value}(h:VO P ops F w0 o v a H)(he:execOp a'.eval o=execOp a.eval o)(hw:Region.wanted o (yielded ops a'.tmps)=Region.wanted o (yielded ops a.tmps)):VO P ops F w0 o v a' H:=by
 rcases h with ⟨h1,h2⟩|⟨h1,h2⟩
 ·exact .inl ⟨hw.trans h1,λ X w hR hB=>rE he (h2 X w hR hB)⟩
 ·exact .inr ⟨hw.trans h1,h2⟩
theorem VO.more{v:Value}(h:VO P ops F w0 o v a H)(X:HL):VO P ops F w0 o v a (X++H):=by
 rcases h with ⟨h1,h2⟩|⟨h1,h2⟩
 ·refine .inl ⟨h1,λ Y w hR hB=>?_⟩;have e:Y++(X++H++F)=(Y++X)++(H++F):=by simp
  rw[e] at hR ⊢;exact h2 (Y++X) w hR hB
 ·exact .inr ⟨h1,h2⟩
theorem VO.opj{v:Value}(Wx:∀x∈Rd,x∈H)(hi:ops[i]?=some o)(h:VO P ops F w0 o v a H)(hk:K (a.put o.dst v) H):OPJ P ops F w0 hards Rd i a H K:=by
 unfold OPJ;rw[hi];simp only;rcases h with ⟨h1,h2⟩|⟨h1,rfl⟩
 ·rw[if_pos h1];intro w hR hB;refine dS (h2 [] w hR hB) ?_;rintro u w' ⟨rfl,h3,h4⟩;exact⟨H,⟨λ _=>⟨[],rfl⟩,λ _=>Wx⟩,hk,h3,h4⟩
 ·rw[if_neg (by rw[h1];simp)];exact hk
def comes(ops:Array Oper)(i:Nat):Nat->Nat->Bool
 |0,_=>false
 |f+1,m=>match ops[m]? with
  |some o=>o.after.toList.any λ e=>Region.binds .any e && (e.on == i || comes ops i f e.on)
  |none=>false
def Closed(ops:Array Oper)(listed:Array Bool):Prop :=
 ∀j oj,ops[j]?=some oj->listed.getD j false=true->∀e∈oj.after,Region.binds .any e=true->listed.getD e.on false=true
theorem Closed.set(h:Closed ops listed)(hj:j∈Region.ready .any ops listed):Closed ops (listed.setIfInBounds j true):=by
 obtain⟨_,oj,hoj,Q_⟩:=mem_ready.1 hj;intro k ok hk hl e he hb
 by_cases hjk:j=k
 ·subst hjk;obtain rfl:ok=oj:=abL (hk.symm.trans hoj);exact getD_set_true (Q_ e he hb)
 ·rw[getD_set_ne false hjk] at hl;exact getD_set_true (h k ok hk hl e he hb)
theorem Closed.comes{listed:Array Bool}(h:Closed ops listed){i:Nat}(hi:listed.getD i false=false):∀ (f m:Nat),comes ops i f m=true->listed.getD m false=false
 |0,m,ha=>by simp[YtogafelgppjklaaGreatDoor.comes] at ha
 |f+1,m,ha=>by
  rw[YtogafelgppjklaaGreatDoor.comes] at ha;cases hm:ops[m]? with
  |none=>rw[hm] at ha;cases ha
  |some o=>
   rw[hm] at ha;obtain⟨e,he,hb⟩:=List.any_eq_true.1 ha;simp only[aaW,Bool.or_eq_true,beq_iff_eq] at hb;cases hl:listed.getD m false with
   |false=>rfl
   |true=>
    have h1:=h m o hm hl e (by simpa using he) hb.1;rcases hb.2 with h2|h2
    ·rw[h2,hi] at h1;cases h1
    ·rw[h.comes hi f e.on h2] at h1;cases h1
theorem rF(h:listed.getD i true=false):listed.getD i false=false:=by
 rcases aaV i listed.size with h'|h'
 ·simp[h'] at h ⊢;exact h
 ·simp[acf h'] at h
theorem GU{oi:Oper}{v:Value}(hi:ops[i]?=some oi)(XY:∀ (j:Nat) (o:Oper) cs b,ops[j]?=some o->o.op≠ .select cs b) :
  ∀ (fuel:Nat) (listed:Array Bool) (a:Act) (H:HL),((∀m∈hards,comes ops i ops.size m=true)\/∀H',(∀x∈Rd,x∈H')->VO P ops F w0 oi v a H')->(∀x∈Rd,x∈H)->Closed ops listed->
   (∀j oj,ops[j]?=some oj->j≠i->listed.getD j true=false->(∀e∈oj.after,Region.binds .any e=true->e.on≠i)->oi.apart ops oj=true)->
   i∈Region.ready .any ops listed->VO P ops F w0 oi v a H->
   JJ P ops Q F w0 hards Rd fuel (listed.setIfInBounds i true) (a.put oi.dst v) H->JJ P ops Q F w0 hards Rd (fuel+1) listed a H:=by
 intro fuel
 induction fuel with
 |zero=>
  intro listed a H _ Wx _ _ hr hy V7;refine⟨λ h=>(by rw[h] at hr;cases hr),λ j hj=>?_⟩
  by_cases hji:j=i
  ·subst hji;exact hy.opj Wx hi V7
  ·have:=ready_mono hj hji;rw[V7.1] at this;cases this
 |succ fuel ih=>
  intro listed a H hh Wx I_ abY hr hy hJ;refine⟨λ h=>(by rw[h] at hr;cases hr),λ j hj=>?_⟩
  by_cases hji:j=i
  ·subst hji;exact hy.opj Wx hi hJ
  ·have h1:=hJ.2 j (ready_mono hj hji);obtain⟨acV,oj,hoj,Q_⟩:=mem_ready.1 hj;have afM:=(mem_ready.1 hr).1;have aiN:∀e∈oj.after,Region.binds .any e=true->e.on≠i:=λ e he hb heq=>by
    have h1:=Q_ e he hb;rw[heq,rF afM] at h1;cases h1
   obtain⟨p1,p2,p3⟩:=Oper.apart_spec (abY j oj hoj hji acV aiN);have ac9:=I_.set hj;have afL:(listed.setIfInBounds j true).getD i false=false:=by rw[getD_set_ne false hji];exact rF afM
   have ai7:j<listed.size:=by
    rcases aaV j listed.size with h|h
    ·exact h
    ·simp[acf h] at acV
   have hjn:(∀m∈hards,comes ops i ops.size m=true)->j∉hards:=λ hh hm=>by
    have h2:=ac9.comes afL _ j (hh j hm);simp[ai7] at h2
   have ZI:∀k ok,ops[k]?=some ok->k≠i->(listed.setIfInBounds j true).getD k true=false->
     (∀e∈ok.after,Region.binds .any e=true->e.on≠i)->oi.apart ops ok=true:=λ k ok hk hki hun Wj=>by
    refine abY k ok hk hki ?_ Wj
    by_cases hjk:j=k
    ·subst hjk;exact acV
    ·rw[getD_set_ne true hjk] at hun;exact hun
   have Z_:=ready_mono hr (Ne.symm hji);unfold OPJ at h1 ⊢;rw[hoj] at h1 ⊢;simp only at h1 ⊢;rw[wanted_put oj a oi.dst v p1] at h1;have aeK:∀u,VO P ops F w0 oi v (a.put oj.dst u) H:=λ u=>hy.same (execOp_put oi (λ cs b=>XY i oi cs b hi) a oj.dst u p3) (wanted_put oi a oj.dst u p3);have Zk:(∀H',(∀x∈Rd,x∈H')->VO P ops F w0 oi v a H')->∀u H',(∀x∈Rd,x∈H')->VO P ops F w0 oi v (a.put oj.dst u) H':=λ hh u H' hr=>(hh H' hr).same (execOp_put oi (λ cs b=>XY i oi cs b hi) a oj.dst u p3) (wanted_put oi a oj.dst u p3)
   by_cases hw:Region.wanted oj (yielded ops a.tmps)=true
   ·rw[if_pos hw] at h1 ⊢;intro w hR hB;refine dS (rE (execOp_put oj (λ cs b=>XY j oj cs b hoj) a oi.dst v p1).symm (h1 w hR hB)) ?_;rintro u w' ⟨H',hx,h2,h3,h4⟩;refine⟨H',hx,?_,h3,h4⟩;have agf:∀x∈Rd,x∈H':=by
     by_cases hjh:j∈hards
     ·exact hx.2 hjh
     ·obtain⟨X,rfl⟩:=hx.1 hjh;exact λ x hx=>aaB _ (Wx x hx)
    have hy':VO P ops F w0 oi v (a.put oj.dst u) H':=by
     rcases hh with hh|hh
     ·obtain⟨X,rfl⟩:=hx.1 (hjn hh);exact(aeK u).more X
     ·exact Zk hh u H' agf
    refine ih _ _ _ (hh.imp id λ hh=>Zk hh u) agf ac9 ZI Z_ hy' ?_;rw[Array.setIfInBounds_comm _ _ hji,<- Act.put_comm a v u p2];exact h2
   ·rw[if_neg hw] at h1 ⊢;refine ih _ _ _ (hh.imp id λ hh=>Zk hh undef) Wx ac9 ZI Z_ (aeK undef) ?_;rw[Array.setIfInBounds_comm _ _ hji,<- Act.put_comm a v undef p2];exact h1
end
def i0(ops:List Oper)(listed:List Bool):List Nat :=
 (List.range ops.length).filter λ i=>!(listed.getD i true) && ((ops[i]?).map (·.after.toList.all λ e=>!Region.binds .any e || listed.getD e.on false)).getD false
theorem mz(ops:Array Oper)(listed:List Bool):Region.ready .any ops ⟨listed⟩=i0 ops.toList listed:=by
 unfold Region.ready i0;rw[adX];apply List.filter_congr;intro i _;simp only[UV,ab9,aaG,Array.getElem?_toList];congr 1;cases ops[i]? with
 |none=>rfl
 |some o=>simp
def QF(ops:List Oper)(hards:List Nat)(listed:List Bool)(i:Nat):Bool :=
 (i0 ops listed).contains i && Region.free .any ⟨ops⟩ ⟨listed⟩ i && hards.all (λ m=>comes ⟨ops⟩ i ops.length m)
def QG(ops:List Oper)(listed:List Bool)(i:Nat):Bool :=
 (i0 ops listed).contains i && Region.free .any ⟨ops⟩ ⟨listed⟩ i
def TD(P:Program)(N:Nat)(D:List Deferred)(F:HL)(w0:World)(ops:Array Oper)(hards:List Nat)(Rd:HL)(fuel:Nat)(listed:List Bool)(L:FL)(H:HL)(Q:Exit->Act->World->Prop):Prop :=
 Closed ops ⟨listed⟩->∀a,Fm N D L a->JJ P ops Q F w0 hards Rd fuel ⟨listed⟩ a H
section
variable {r:Option Nat} {P:Program} {N:Nat} {D:List Deferred} {F:HL} {w0:World} {ops:Array Oper} {hards:List Nat} {Rd:HL} {fuel:Nat} {listed:List Bool} {L:FL} {H:HL} {Q:Exit->Act->World->Prop}
theorem xB:Closed ops ⟨List.replicate n false⟩:=by
 intro j oj _ hl;exfalso;rcases aaV j n with h|h
 ·simp[h] at hl
 ·simp[h] at hl
def qV(ops:Array Oper):Bool:=ops.all λ o=>match o.op with | .defer _=>false|_=>true
theorem vU(h:qV ops=true)(c:Call)(ho:ops[j]?=some o):o.op≠ .defer c:=by
 intro heq;have:=Array.all_eq_true_iff_forall_mem.1 h o (Array.mem_of_getElem? ho);simp[heq] at this
theorem jN(hd:qV ops=true):∀ (fuel:Nat) (listed:Array Bool) (a:Act) (H:HL) (w:World),JJ P ops (NoPanic Q) F w0 hards Rd fuel listed a H->Rel (H++F) w->Below 0 w0 w->wpAnyIn (Wr r) 0 P .any ops Q fuel listed a w
 |0,_,a,H,w,h,hR,hB=>⟨h.1,h.2 w hR hB⟩
 |fuel+1,listed,a,H,w,h,hR,hB=>by
  refine⟨λ hr=>h.1 hr w hR hB,λ i hi=>?_⟩;have h1:=h.2 i hi;unfold OPJ at h1;unfold wpOpIn;cases ho:ops[i]? with
  |none=>rw[ho] at h1;exact h1.elim
  |some o=>
   rw[ho] at h1;simp only at h1 ⊢
   by_cases hw:Region.wanted o (yielded ops a.tmps)=true
   ·rw[if_pos hw] at h1 ⊢;refine⟨λ _ _=>trivial,dT (λ c=>vU hd c ho) (h1 w hR hB) ?_⟩;rintro u w' ⟨H',_,h2,h3,h4⟩;exact jN hd fuel _ _ H' w' h2 h3 h4
   ·rw[if_neg hw] at h1 ⊢;exact⟨λ _ _=>trivial,jN hd fuel _ _ H w h1 hR hB⟩
theorem TR.draw(hards:List Nat)(Rd:HL)(hm:P.follows .mixedOrders=true)(hs:Region.noSelect ops=true)(hd:qV ops=true)(h:TD P N D F w0 ops hards Rd ops.size (List.replicate ops.toList.length false) L H (NoPanic Q)):TR r P N D F w0 L H (.region id ops true) Q:=by
 intro a w h1 h2 h3;refine wpIn_region_any hm ?_;have h4:=h (xB) a h1;have e:Array.replicate ops.size false=⟨List.replicate ops.toList.length false⟩:=by simp
 rw[e];refine jN hd (hards:=hards) (Rd:=Rd) _ _ _ H _ h4 (h2.world rfl) ⟨h3.os,h3.tape,h3.output,h3.size,λ k hk=>by omega⟩
theorem TD.fin(hr:i0 ops.toList listed=[])(h:EX N D F w0 L H Q .normal):TD P N D F w0 ops hards Rd fuel listed L H Q:=by
 intro _ a hF;have Z_:=(mz ops listed).trans hr;have hx:Ti Q F w0 a H:=λ w hR hB=>h a w hF hR hB;cases fuel with
 |zero=>exact⟨Z_,hx⟩
 |succ n=>exact⟨λ _=>hx,λ i hi=>by rw[Z_] at hi;cases hi⟩
theorem QQ(h:EX N D F w0 L H Q .normal):EX N D F w0 L H (NoPanic Q) .normal:=h
def tM(P:Program)(n0 N:Nat)(ops:List Oper)(hards:List Nat)(Rd:HL):List Nat->List Bool->FL->SS->Option (List Bool×FL×SS)
 | [],listed,L,s=>some (listed,L,s)
 |i::is,listed,L,s=>match QG ops listed i,ops[i]? with
  |true,some o=>match jA ops o L s with
   |none=>none
   |some (false,s)=>match dK N o.dst undef L with
    |some L=>tM P n0 N ops hards Rd is (aO listed i true) L s
    |none=>none
   |some (true,s)=>match iX o.op L with
    |false=>none
    |true=>match QF ops hards listed i with
     |true=>match ev P n0 o (eY L) s with
      |some (.value v,s)=>match dK N o.dst v L with
       |some L=>tM P n0 N ops hards Rd is (aO listed i true) L s
       |none=>none
      |_=>none
     |false=>match ev P n0 o (eY L) { s with h:=[],r:=Rd++s.r } with
      |some (.value v,s')=>match dK N o.dst v L with
       |some L=>tM P n0 N ops hards Rd is (aO listed i true) L { s' with h:=s.h,r:=s.r }
       |none=>none
      |_=>none
  |_,_=>none
theorem GV(h:QG ops.toList listed i=true):i∈Region.ready .any ops ⟨listed⟩/\Region.free .any ops ⟨listed⟩ i=true:=by
 unfold QG at h;simp only[aaW,abC] at h;exact⟨by rw[mz];exact h.1,h.2⟩
theorem GW(h:QF ops.toList hards listed i=true):i∈Region.ready .any ops ⟨listed⟩/\Region.free .any ops ⟨listed⟩ i=true/\∀m∈hards,comes ops i ops.size m=true:=by
 unfold QF at h;simp only[aaW,abC,ady] at h;obtain⟨⟨h1,h2⟩,h3⟩:=h;exact⟨by rw[mz];exact h1,h2,λ m hm=>by simpa using h3 m hm⟩
theorem i4{n0:Nat}{l:List Oper}:∀ (is:List Nat) (b b':List Bool) (L L':FL) (s s':SS),tM P n0 N l hards Rd is b L s=some (b',L',s')->(∀p∈s.eq,p∈s'.eq)/\(∀p∈s.ob,p∈s'.ob)
 | [],b,b',L,L',s,s',h=>by rw[tM] at h;cases h;exact⟨λ _ h=>h,λ _ h=>h⟩
 |i::is,b,b',L,L',s,s',h=>by
  rw[tM] at h;split at h
  case h_2=>cases h
  split at h
  ·cases h
  ·rename_i hw;split at h
   case h_2=>cases h
   obtain⟨a1,a2,_⟩:=bE hw;obtain⟨b1,b2⟩:=i4 is _ _ _ _ _ _ h;exact⟨λ p hp=>b1 p (a1 p hp),λ p hp=>b2 p (a2 p hp)⟩
  ·rename_i hw;split at h
   ·cases h
   split at h
   all_goals
    split at h
    case h_2=>cases h
    rename_i he;split at h
    case h_2=>cases h
    obtain⟨a1,a2,_⟩:=bE hw;obtain⟨c1,c2,_⟩:=dz he;obtain⟨b1,b2⟩:=i4 is _ _ _ _ _ _ h;exact⟨λ p hp=>b1 p (c1 p (a1 p hp)),λ p hp=>b2 p (c2 p (a2 p hp))⟩
theorem QR{ρ:Operand->Value}{x:Next}(h:ev P n0 o ρ s=some (x,s'))(hw:s.wr=false):s'.h=s.h:=by
 unfold ev at h
 repeat' split at h
 all_goals first
  |exact(CG _ _ _ h hw :)
  | (cases h;done)
  | (cases h;rfl)
  | (rename_i e;rw[hw] at e;cases e)
theorem oH(i:Nat):(⟨listed⟩:Array Bool).setIfInBounds i true=⟨aO listed i true⟩:=by
 rw[oB];simp
theorem xC{v:Value}{L1:FL}(hs:Region.noSelect ops=true)(dO:QG ops.toList listed i=true)(ho:ops[i]?=some o)(hp:∀a,Fm N D L a->Fm N D L1 (a.put o.dst v))(hv:∀a,Fm N D L a->VO P ops F w0 o v a H)
  (Wx:∀x∈Rd,x∈H) (hh:QF ops.toList hards listed i=true\/∀a,Fm N D L a->∀H',(∀x∈Rd,x∈H')->VO P ops F w0 o v a H')
  (h:TD P N D F w0 ops hards Rd fuel (aO listed i true) L1 H Q):TD P N D F w0 ops hards Rd (fuel+1) listed L H Q:=by
 intro I_ a hF;obtain⟨h1,h2⟩:=GV dO;refine GU ho (Region.noSelect_spec hs) fuel _ a H (hh.imp (λ hh=>(GW hh).2.2) (λ hh=>hh a hF)) Wx I_ (Region.free_spec ho h2) h1 (hv a hF) ?_;rw[oH];refine h ?_ _ (hp a hF);rw[<- oH];exact I_.set h1
theorem AG{X H F:HL}(aT:Rel (X++(H++F)) w):Rel (H++(X++F)) w:=aT.perm (by
 rw[<- aaF,<- aaF];exact aaT F aaS)
theorem jC{Rr:HL}(hs:Region.noSelect ops=true)(Wx:∀x∈Rd,x∈H)(hR:∀y∈Rr,y∈F):∀ (is:List Nat) (b b':List Bool) (L L':FL) (s s':SS),tM P 0 N ops.toList hards Rd is b L s=some (b',L',s')->
  s.h=H->s.r=Rr->s.wr=false->(∀p∈s'.eq,p.1=p.2)->(∀p∈s'.ob,p)->
  TD P N D F w0 ops hards Rd fuel b' L' H Q->TD P N D F w0 ops hards Rd (fuel+is.length) b L H Q
 | [],b,b',L,L',s,s',h,_,_,_,_,_,hk=>by
  rw[tM] at h;cases h;exact hk
 |i::is,b,b',L,L',s,s',h,hh,hr,hw,heq,iD,hk=>by
  rw[tM] at h;split at h
  case h_2=>cases h
  rename_i o acL ho;have IT:ops[i]?=some o:=by simpa using ho
  split at h
  ·cases h
  ·rename_i s1 XC;split at h
   case h_2=>cases h
   rename_i L1 hp;obtain⟨a1,a2,a3,a4⟩:=bE XC;obtain⟨b1,b2⟩:=i4 is _ _ _ _ _ _ h;have hws:∀a,Fm N D L a->Region.wanted o (yielded ops a.tmps)=false/\s1.h=s.h/\s1.cnt=s.cnt:=λ a hF=>b6 XC hF (λ p hp=>iD p (b2 p hp));refine λ I_ a hF=>?_;obtain⟨c1,c2,c3⟩:=hws a hF;exact(xC (v:=undef) hs acL IT (λ a hF=>hF.put hp) (λ a hF=>.inr ⟨(hws a hF).1,rfl⟩) Wx (.inr λ a hF H' _=>.inr ⟨(hws a hF).1,rfl⟩)
    (jC hs Wx hR is _ b' L1 L' s1 s' h (by rw[c2];exact hh) (by rw[a3];exact hr) (a4.trans hw) heq iD hk):TD P N D F w0 ops hards Rd (fuel+is.length+1) b L H Q) I_ a hF
  ·rename_i s1 XC;split at h
   ·cases h
   rename_i dO;obtain⟨a1,a2,a3,a4⟩:=bE XC;split at h
   ·rename_i aiJ;split at h
    case h_2=>cases h
    rename_i v s2 he;split at h
    case h_2=>cases h
    rename_i L1 hp;obtain⟨d1,d2,d3,d4⟩:=dz he;obtain⟨b1,b2⟩:=i4 is _ _ _ _ _ _ h;have hws:∀a,Fm N D L a->Region.wanted o (yielded ops a.tmps)=true/\s1.h=s.h/\s1.cnt=s.cnt:=λ a hF=>b6 XC hF (λ p hp=>iD p (b2 p (d2 p hp)));refine λ I_ a hF=>?_;obtain⟨c1,c2,c3⟩:=hws a hF;have Vy:=QR he (a4.trans hw);refine(xC (v:=v) hs acL IT (λ a hF=>hF.put hp) (λ a hF'=>.inl ⟨(hws a hF').1,λ X w aT hB=>?_⟩) Wx (.inl aiJ)
     (jC hs Wx hR is _ b' L1 L' s2 s' h (by rw[Vy,c2];exact hh) (by rw[d3,a3];exact hr) (d4.trans (a4.trans hw)) heq iD hk):TD P N D F w0 ops hards Rd (fuel+is.length+1) b L H Q) I_ a hF
    have Vr:=AG aT;have Y0:s1.h=H:=by rw[c2];exact hh
    obtain⟨w1,e1,e2,e3,e4,e5⟩:=gQ (w:=w) (F:=X++F) he (λ p hp=>heq p (b1 p hp)) (λ p hp=>iD p (b2 p hp)) (by rw[Y0];exact Vr) (by rw[a3,hr];exact λ y hy=>aaB _ (hR y hy)) (λ e=>by rw[a4,hw] at e;cases e);obtain rfl:=e5 (a4.trans hw);unfold cI;rw[hF'.exec dO,e1];exact⟨rfl,aT,hB⟩
   ·split at h
    case h_2=>cases h
    rename_i v s2 he;split at h
    case h_2=>cases h
    rename_i L1 hp;obtain⟨d1,d2,d3,d4⟩:=dz he;obtain⟨b1,b2⟩:=i4 is _ _ _ _ _ _ h;have hws:∀a,Fm N D L a->Region.wanted o (yielded ops a.tmps)=true/\s1.h=s.h/\s1.cnt=s.cnt:=λ a hF=>b6 XC hF (λ p hp=>iD p (b2 p (d2 p hp)));have hvo:∀a,Fm N D L a->∀H',(∀x∈Rd,x∈H')->VO P ops F w0 o v a H':=λ a hF' H' VI=>.inl ⟨(hws a hF').1,λ X w aT hB=>by
     obtain⟨w1,e1,e2,e3,e4,e5⟩:=gQ (w:=w) (F:=X++(H'++F)) he (λ p hp=>heq p (b1 p hp)) (λ p hp=>iD p (b2 p hp)) aT (λ y hy=>by
      rcases abM.1 hy with hy|hy
      ·exact aaB _ (aaC _ (VI y hy))
      ·exact aaB _ (aaB _ (hR y (by rw[<- hr,<- a3];exact hy)))) (λ e=>by rw[a4,hw] at e;cases e)
     obtain rfl:=e5 (a4.trans hw);unfold cI;rw[hF'.exec dO,e1];exact⟨rfl,aT,hB⟩⟩
    refine λ I_ a hF=>?_;obtain⟨c1,c2,c3⟩:=hws a hF;exact(xC (v:=v) hs acL IT (λ a hF=>hF.put hp) (λ a hF'=>hvo a hF' H Wx) Wx (.inr hvo)
     (jC hs Wx hR is _ b' L1 L' _ s' h (by rw[<- hh,<- c2]) (by rw[<- hr,<- a3]) (d4.trans (a4.trans hw)) heq iD hk):TD P N D F w0 ops hards Rd (fuel+is.length+1) b L H Q) I_ a hF
theorem qh{H Rd:HL}(ix:List Nat)(h:ix.filterMap (H[·]?)=Rd):∀x∈Rd,x∈H:=by
 subst h;intro x hx;obtain⟨i,_,hi⟩:=List.mem_filterMap.1 hx;exact np hi
theorem TD.all(rs:List Nat)(hr:i0 ops.toList listed=rs)(DO:rs≠[])(IS:Nat)(hf:fuel=IS+1)
  (h:∀i∈rs,∀a,Fm N D L a->Closed ops ⟨aO listed i true⟩->OPJ P ops F w0 hards Rd i a H (JJ P ops Q F w0 hards Rd IS ⟨aO listed i true⟩)):TD P N D F w0 ops hards Rd fuel listed L H Q:=by
 subst hf;intro I_ a hF;have Z_:=(mz ops listed).trans hr;refine⟨λ e=>absurd (Z_.symm.trans e) DO,λ i hi=>?_⟩;rw[oH];refine h i (Z_▸hi) a hF ?_;rw[<- oH];exact I_.set hi
theorem AJ{R:HL}{dst:Option Tmp}{f:FuncId}(ho:ops.toList[i]?=some o){Hp Hr:HL}{Rv:Value->HL->Prop}
  (h:∀n0,oG P n0 N ops.toList i L H R hints=some (dst,f,args,H1,E,E,Ob)) (hR:∀y∈R,y∈F) (iD:AllP Ob) (oF:(Hp++Hr).Perm H1) (hc:Sp P f args Hp (Hr++F) Rv) (hF:Fm N D L a) :
  Region.wanted o (yielded ops a.tmps)=true/\∀w,Rel (H++F) w->Below 0 w0 w->cI P o a w λ u w'=>∃H',Rv u H'/\Rel ((H'++Hr)++F) w'/\Below 0 w w':=by
 have key:∀n0,∃s s',jA ops.toList o L ⟨H,R,hints,0,[],[],true⟩=some (true,s)/\iX o.op L=true/\ev P n0 o (eY L) s=some (.enter f args,s')/\s'.h=H1/\s'.eq.map (·.1)=E/\s'.eq.map (·.2)=E/\s'.ob=Ob:=λ n0=>by
  obtain⟨o',s,s',IT,XC,dO,XK,_,hh,e1,e2,e3⟩:=iZ (h n0);obtain rfl:o'=o:=abL (IT.symm.trans ho);exact⟨s,s',XC,dO,XK,hh,e1,e2,e3⟩
 obtain⟨s,s',XC,dO,XK,hh,e1,e2,e3⟩:=key 0;obtain⟨d1,d2,d3,d4⟩:=dz XK;refine⟨(b6 XC hF (λ p hp=>AllP.mem iD p (by rw[<- e3];exact d2 p hp))).1,λ w aT hB=>?_⟩;obtain⟨s,s',XC,dO,XK,hh,e1,e2,e3⟩:=key w.heap.size;obtain⟨a1,a2,a3,a4⟩:=bE XC;obtain⟨d1,d2,d3,d4⟩:=dz XK;have Vz:∀p∈s'.ob,p:=by rw[e3];exact AllP.mem iD
 obtain⟨c1,c2,c3⟩:=b6 XC hF (λ p hp=>Vz p (d2 p hp));obtain⟨w1,r1,r2,r3,r4,r5⟩:=gQ (w:=w) (F:=F) XK (f6 e1 e2) Vz (by rw[c2];exact aT) (by rw[a3];exact hR) (λ _=>by rw[c3];rfl);unfold cI;rw[hF.exec dO,r1];rw[hh] at r2;refine(hc w1 (by rw[<- aaF];exact r2.perm (oF.append_right F))).mono ?_;rintro e w2 ⟨v,H',rfl,hv,Wm,Yg⟩;exact⟨H',hv,by rw[aaF];exact Wm,r3.trans Yg⟩
theorem TD.one(i:Nat)(hr:i0 ops.toList listed=[i])(IS:Nat)(hf:fuel=IS+1)
  (h:∀a,Fm N D L a->Closed ops ⟨aO listed i true⟩->OPJ P ops F w0 hards Rd i a H (JJ P ops Q F w0 hards Rd IS ⟨aO listed i true⟩)):TD P N D F w0 ops hards Rd fuel listed L H Q :=
 TD.all [i] hr (by simp) IS hf λ j hj a hF I_=>by
  obtain rfl:j=i:=by simpa using hj
  exact h a hF I_
theorem OPJ.perm{hards:List Nat}{Rd:HL}{H:HL}{K':Act->HL->Prop}(hK:∀a H1 H2,H1.Perm H2->K a H1->K' a H2)(hp:H.Perm H')(h:OPJ P ops F w0 hards Rd i a H K):OPJ P ops F w0 hards Rd i a H' K':=by
 unfold OPJ at h ⊢;cases ho:ops[i]? with
 |none=>rw[ho] at h;exact h
 |some o=>
  rw[ho] at h;simp only at h ⊢;split
  ·rename_i hw;rw[if_pos hw] at h;intro w hR hB;refine dS (h w (hR.perm (hp.append_right F)) hB) ?_;rintro u w' ⟨H1,⟨s1,s2⟩,k1,k2,k3⟩
   by_cases hi:i∈hards
   ·exact⟨H1,⟨λ e=>absurd hi e,s2⟩,hK _ _ _ (List.Perm.refl _) k1,k2,k3⟩
   ·obtain⟨X,rfl⟩:=s1 hi;have hpx:(X++H).Perm (X++H'):=hp.append_left X;exact⟨X++H',⟨λ _=>⟨X,rfl⟩,λ e=>absurd e hi⟩,hK _ _ _ hpx k1,k2.perm (hpx.symm.append_right F),k3⟩
  ·rename_i hw;rw[if_neg hw] at h;exact hK _ _ _ hp h
theorem JJ.perm{hards:List Nat}{Rd:HL}:∀ (fuel:Nat) (listed:Array Bool) (a:Act) (H H':HL),H.Perm H'->JJ P ops Q F w0 hards Rd fuel listed a H->JJ P ops Q F w0 hards Rd fuel listed a H'
 |0,listed,a,H,H',hp,h=>⟨h.1,λ w hR hB=>h.2 w (hR.perm (hp.append_right F)) hB⟩
 |fuel+1,listed,a,H,H',hp,h=>⟨λ e w hR hB=>h.1 e w (hR.perm (hp.append_right F)) hB,λ i hi=>OPJ.perm (λ a H1 H2 hp h=>JJ.perm fuel _ a H1 H2 hp h) hp (h.2 i hi)⟩
theorem OT(hr:i0 ops.toList listed=[i,j]){IS:Nat}(hf:fuel=IS+1)
  (h1:∀a,Fm N D L a->Closed ops ⟨aO listed i true⟩->OPJ P ops F w0 hards Rd i a H (JJ P ops Q F w0 hards Rd IS ⟨aO listed i true⟩))
  (h2:∀a,Fm N D L a->Closed ops ⟨aO listed j true⟩->OPJ P ops F w0 hards Rd j a H (JJ P ops Q F w0 hards Rd IS ⟨aO listed j true⟩)):TD P N D F w0 ops hards Rd fuel listed L H Q :=
 TD.all [i,j] hr (by simp) IS hf λ m hm a hF I_=>by
  have:m=i\/m=j:=by simpa using hm
  rcases this with rfl|rfl
  ·exact h1 a hF I_
  ·exact h2 a hF I_
theorem GX{k:Nat}(hr:i0 ops.toList listed=[i,j,k]){IS:Nat}(hf:fuel=IS+1)
  (h1:∀a,Fm N D L a->Closed ops ⟨aO listed i true⟩->OPJ P ops F w0 hards Rd i a H (JJ P ops Q F w0 hards Rd IS ⟨aO listed i true⟩))
  (h2:∀a,Fm N D L a->Closed ops ⟨aO listed j true⟩->OPJ P ops F w0 hards Rd j a H (JJ P ops Q F w0 hards Rd IS ⟨aO listed j true⟩))
  (h3:∀a,Fm N D L a->Closed ops ⟨aO listed k true⟩->OPJ P ops F w0 hards Rd k a H (JJ P ops Q F w0 hards Rd IS ⟨aO listed k true⟩)):TD P N D F w0 ops hards Rd fuel listed L H Q :=
 TD.all [i,j,k] hr (by simp) IS hf λ m hm a hF I_=>by
  have:m=i\/m=j\/m=k:=by simpa using hm
  rcases this with rfl|rfl|rfl
  ·exact h1 a hF I_
  ·exact h2 a hF I_
  ·exact h3 a hF I_
end
end
end Go.Proofs.YtogafelgppjklaaGreatDoor
