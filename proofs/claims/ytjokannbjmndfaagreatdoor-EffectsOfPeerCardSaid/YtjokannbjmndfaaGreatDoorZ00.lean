import Derived.WalkKit
import Derived.OrdersHeld
import Derived.Deep.RegionHeld3
import Derived.KernelRfl
import Derived.Laws.StructEq
set_option linter.all false
set_option maxHeartbeats 4000000
set_option maxRecDepth 100000
namespace Go.Proofs.YtjokannbjmndfaaGreatDoor
open Go.RowKit
variable {P:Program} {W w w':World} {a:Addr} {b i k n n0 p:Nat} {fz:Nat×Nat} {g:Nat->Nat->Value} {o:Obj} {ty:TypeId} {α:Type}
abbrev bt:=@List.getElem?_eq_some_iff
abbrev de:=@Option.some.injEq
abbrev df:=@Prod.mk.injEq
abbrev eb:=@List.mem_singleton
abbrev eB:=@List.drop_eq_getElem_cons
abbrev fx:=@Array.getElem?_eq_some_iff
abbrev go:=@List.mem_of_getElem?
abbrev jt:=@Below.refl
abbrev lv:=@Array.getElem?_setIfInBounds_self_of_lt
abbrev np:=@List.mem_append
abbrev ot:=@Nat.not_lt_zero
abbrev pt:=@List.length_singleton
abbrev sv:=@Array.getElem?_eq_getElem
abbrev vo:=@Array.getElem?_setIfInBounds_ne
abbrev UV:=@Option.map_some
abbrev WF:=@List.nil_append
abbrev WP:=@List.take_of_length_le
abbrev aaA:=@Array.getD_eq_getD_getElem?
abbrev abs:=@List.take_append_of_le_length
abbrev abB:=@List.cons_append
abbrev abH:=@List.perm_middle
abbrev abI:=@List.contains_iff_mem
abbrev abL:=@List.mem_cons
abbrev abP:=@Nat.zero_add
abbrev abQ:=@List.getElem?_eq_none
abbrev abY:=@List.mem_map
abbrev ab0:=@List.Perm.append_left
abbrev ab6:=@List.length_replicate
abbrev ab8:=@Option.some.inj
abbrev ace:=@List.getElem?_cons_succ
abbrev acf:=@Array.getElem?_modify
abbrev acg:=@List.ext_getElem?
abbrev ack:=@List.length_set
abbrev acl:=@List.map_append
abbrev acm:=@List.append_nil
abbrev acn:=@List.drop_append_of_le_length
abbrev aco:=@List.drop_eq_nil_of_le
abbrev acq:=@Nat.eq_zero_or_pos
abbrev acy:=@Array.getElem?_toList
abbrev acD:=@List.length_map
abbrev acE:=@Nat.add_mul
abbrev acF:=@List.map_cons
abbrev acJ:=@Nat.mul_le_mul_right
abbrev acK:=@Nat.add_zero
abbrev acL:=@Option.map_eq_some_iff
abbrev acM:=@List.cons.injEq
abbrev acN:=@Int.emod_lt_of_pos
abbrev acQ:=@List.take_succ_eq_append_getElem
abbrev acR:=@Array.getElem?_append_left
abbrev acS:=@List.getElem?_set
abbrev acT:=@List.flatten_append
abbrev acU:=@List.mem_map_of_mem
abbrev acV:=@List.pairwise_map
abbrev acW:=@Sem.run.eq_def
abbrev acX:=@List.nodup_cons
abbrev acY:=@List.getElem?_toArray
abbrev acZ:=@List.getElem?_take_of_lt
abbrev ac0:=@List.getElem_mem
abbrev ac1:=@List.getElem?_cons_zero
abbrev ac2:=@List.getElem?_replicate
abbrev ac3:=@List.filterMap_cons
abbrev ac4:=@Int.emod_nonneg
abbrev ac5:=@Int.le_refl
abbrev ac6:=@Array.getElem?_eq_none
abbrev ac7:=@List.getElem_cons_succ
abbrev ac8:=@List.take_length
abbrev ac9:=@List.mem_of_mem_take
abbrev ada:=@List.nodup_append
abbrev adb:=@Option.isSome_iff_exists
abbrev adc:=@List.mem_filter
abbrev ade:=@Nat.succ_mul
abbrev adf:=@List.getD_cons_zero
abbrev adg:=@List.getD_cons_succ
abbrev adh:=@List.lookup_cons
abbrev adi:=@List.take_take
abbrev adj:=@List.filterMap_nil
abbrev adk:=@Array.getElem?_setIfInBounds
abbrev adl:=@List.length_nil
abbrev adm:=@Nat.min_eq_left
abbrev adn:=@List.range_succ
abbrev ado:=@Nat.ble_eq_true_of_le
abbrev adp:=@List.pairwise_iff_getElem
abbrev adq:=@List.drop_zero
abbrev adr:=@List.drop_drop
abbrev adt:=@List.all_eq_true
abbrev adu:=@Array.toList_map
abbrev adz:=@Option.getD_some
abbrev adB:=@List.map_congr_left
abbrev adC:=@List.filter_eq_self
abbrev adD:=@Nat.add_sub_cancel_left
abbrev adJ:=@Bool.false_eq_true
abbrev adN:=@Array.foldl_toList
abbrev aea:=@List.flatten_singleton
abbrev aem:=@Nat.lt_trichotomy
abbrev aeq:=@List.take_add_one
abbrev aeu:=@Int.toNat_natCast
abbrev aev:=@Bool.not_eq_true'
abbrev aex:=@Array.toList_eraseIdxIfInBounds
abbrev aey:=@List.mapM_cons
abbrev aeL:=@Nat.zero_mul
abbrev aeM:=@Nat.sub_self
abbrev aeW:=@Nat.le_trans
abbrev aeZ:=@List.flatten_nil
abbrev ae2:=@List.mem_iff_getElem
abbrev aff:=@List.pairwise_append
abbrev afg:=@Array.getElem?_push
abbrev afi:=@Array.toList_append
abbrev afk:=@List.perm_append_comm_assoc
abbrev afp:=@Int.toNat_of_nonneg
abbrev afu:=@Int.tdiv_eq_ediv_of_nonneg
abbrev afw:=@Nat.le_of_mul_le_mul_right
abbrev afx:=@Nat.mul_comm
abbrev afz:=@Below.heap_setCell
abbrev afA:=@Array.toList_range
abbrev afB:=@Nat.sub_zero
abbrev afC:=@List.map_map
abbrev afD:=@Array.ext_getElem?
abbrev afE:=@List.pairwise_cons
abbrev afF:=@List.mem_range
abbrev afI:=@Nat.mul_le_mul
abbrev afK:=@List.length_range
abbrev afL:=@List.mem_ofFn
abbrev afM:=@List.getElem_map
abbrev afN:=@Array.toList_inj
abbrev afP:=@Nat.mod_eq_of_lt
abbrev afU:=@List.mem_flatMap
abbrev afV:=@Array.toList_zip
abbrev afW:=@List.range'_succ
abbrev afX:=@List.drop_length
abbrev afY:=@List.count_cons
def aaz:=@List.mem_append_right
def aaB:=@List.mem_append_left
def aaC:=@List.mem_cons_self
def aaD:=@List.mem_cons_of_mem
def aaF:=@List.append_assoc
def aaG:=@List.getD_eq_getElem?_getD
def aaH:=@Nat.le_of_ble_eq_true
def aaI:=@Nat.le_refl
def aaJ:=@Nat.zero_le
def aaK:=@List.length_append
def aaN:=@List.length_take
def aaY:=@List.length_drop
def aaZ:=@List.length_cons
def aa1:=@List.getElem?_eq_getElem
def aa2:=@List.getElem?_append_left
def aa3:=@List.getElem?_append_right
def aa4:=@List.perm_append_comm
def aa5:=@List.Perm.append_right
def aa6:=@List.eq_nil_of_length_eq_zero
def aa9:=@Nat.lt_or_ge
def abc:=@Bool.and_eq_true
def abd:=@Nat.eq_of_beq_eq_true
def abe:=@List.flatten_cons
def abf:=@Result.andThen_ok
def abg:=@Sem.run_bind
def abh:=@of_decide_eq_true
def abi:=@List.getElem?_drop
def abn:=@List.getElem?_take
def abo:=@List.getElem?_map
def abt:=@List.take_append_drop
def abv:=@decide_eq_false
def abw:=@decide_eq_true
inductive Blk where
 |lit (cs:List Value) (ty:TypeId) (fz:Nat×Nat)
 |rows (w n:Nat) (g:Nat->Nat->Value) (ty:TypeId) (fz:Nat×Nat)
 |obj (o:Obj)
def bj(w:Nat)(g:Nat->Nat->Value):Nat->List Value
 |0=>[]
 |n+1=>bj w g n++(List.range w).map (g n)
def Blk.den:Blk->Obj
 | .lit cs ty fz=>.cells ⟨cs⟩ ty fz
 | .rows w n g ty fz=>.cells ⟨bj w g n⟩ ty fz
 | .obj o=>o
theorem cH{w:Nat}:(bj w g n).length=n*w:=by
 induction n with
 |zero=>simp[bj]
 |succ n ih=>simp[bj,ih,ade]
theorem mY{w:Nat}(hi:i<n)(hk:k<w):(bj w g n)[i*w+k]?=some (g i k):=by
 induction n with
 |zero=>omega
 |succ n ih=>
  rw[bj];rcases aa9 i n with h|h
  ·have h1:i*w+k<n*w:=by
    have:(i+1)*w<=n*w:=acJ _ h;rw[ade] at this;omega
   rw[aa2 (by rw[cH];exact h1),ih h]
  ·obtain rfl:i=n:=by omega
   rw[aa3 (by rw[cH];omega),cH];rw[adD];simp[hk]
def db(g:Nat->Nat->Value)(i k:Nat)(v:Value):Nat->Nat->Value:=λ i' k'=>if i'=i/\k'=k then v else g i' k'
theorem vF{w:Nat}{g':Nat->Nat->Value}(h:∀i k,i<n->k<w->g i k=g' i k):bj w g n=bj w g' n:=by
 induction n with
 |zero=>rfl
 |succ n ih=>
  rw[bj,bj,ih (λ i k hi hk=>h i k (by omega) hk)];congr 1;exact adB λ k hk=>h n k (by omega) (afF.1 hk)
theorem kg{w:Nat}{l:List Value}(hl:l.length=n*w)(h:∀i k,i<n->k<w->l[i*w+k]?=some (g i k)):bj w g n=l:=by
 apply acg;intro j;rcases aa9 j (n*w) with hj|hj
 ·have hw:0<w:=by
   rcases acq w with h0|h0
   ·subst h0;simp at hj
   ·exact h0
  have h1:j/w*w+j%w=j:=by rw[afx];exact Nat.div_add_mod j w
  have hi:j/w<n:=Nat.div_lt_of_lt_mul (by rw[afx];exact hj);have hk:j%w<w:=Nat.mod_lt _ hw;have h2:=h _ _ hi hk;rw[h1] at h2;rw[h2];have:=mY (g:=g) hi hk;rw[h1] at this;exact this
 ·rw[abQ (by rw[cH];exact hj),abQ (by omega)]
theorem Aw{w:Nat}(hi:i<n)(hk:k<w)(v:Value):(bj w g n).set (i*w+k) v=bj w (db g i k v) n:=by
 symm
 refine kg (by rw[ack,cH]) ?_;intro i' k' hi' UJ;rw[acS,cH]
 by_cases e:i*w+k=i'*w+k'
 ·have e1:i=i':=by
   rcases aem i i' with h|h|h
   ·have:(i+1)*w<=i'*w:=acJ _ h;rw[ade] at this;omega
   ·exact h
   ·have:(i'+1)*w<=i*w:=acJ _ h;rw[ade] at this;omega
  subst e1;have e2:k=k':=by omega
  subst e2;have h1:i*w+k<n*w:=by
   have:(i+1)*w<=n*w:=acJ _ hi;rw[ade] at this;omega
  simp[h1,db]
 ·rw[if_neg e,mY hi' UJ];unfold db;rw[if_neg];rintro⟨rfl,rfl⟩;exact e rfl
abbrev HL:=List (Nat×Blk)
def Holds(w:World)(H:HL):Prop:=∀x∈H,w.heap[x.1]?=some x.2.den
structure Rel(H:HL)(w:World):Prop where
 holds:Holds w H
 nodup:(H.map (·.1)).Nodup
theorem aW(h:w.heap[k]?=some o):k<w.heap.size:=(fx.1 h).1
theorem Rel.lt{H:HL}(h:Rel H w){x:Nat×Blk}(hx:x∈H):x.1<w.heap.size:=aW (h.holds x hx)
theorem Rel.drop{H X:HL}(h:Rel (X++H) w):Rel H w :=
 ⟨λ x hx=>h.holds x (aaz _ hx),by have:=h.nodup;rw[acl] at this;exact(ada.1 this).2.1⟩
theorem Rel.perm{H H':HL}(h:Rel H w)(hp:H'.Perm H):Rel H' w :=
 ⟨λ x hx=>h.holds x (hp.mem_iff.1 hx),(hp.map _).nodup_iff.2 h.nodup⟩
theorem Rel.sub{H H':HL}(h:Rel H w)(hp:H'.Sublist H):Rel H' w :=
 ⟨λ x hx=>h.holds x (hp.subset hx),(hp.map _).nodup h.nodup⟩
theorem Rel.cons{H:HL}(b:Blk)(hb:b.den=o)(h:Rel H w):Rel ((w.heap.size,b)::H) { w with heap:=w.heap.push o }:=by
 subst hb;constructor
 ·intro x hx;show (w.heap.push b.den)[x.1]?=_;rcases abL.1 hx with rfl|hx
  ·simp
  ·rw[afg,if_neg (by have:=h.lt hx;omega)];exact h.holds x hx
 ·simp only[acF,acX];refine⟨?_,h.nodup⟩;intro hm;obtain⟨x,hx,he⟩:=abY.1 hm;have:=h.lt hx;omega
theorem Rel.world{H:HL}(h:Rel H w)(e:w'.heap=w.heap):Rel H w':=⟨λ x hx=>by rw[e];exact h.holds x hx,h.nodup⟩
def aS{α:Type}:List α->Nat->α->List α
 | [],_,_=>[]
 |_::l,0,x=>x::l
 |y::l,n+1,x=>y::aS l n x
theorem nK(l:List α)(n:Nat)(x:α):aS l n x=l.set n x:=by
 induction l generalizing n with
 |nil=>rfl
 |cons y l ih=>cases n with
  |zero=>rfl
  |succ n=>rw[aS,ih];rfl
theorem Rel.upd{H F:HL}{bl bl':Blk}(h:Rel (H++F) w)(hp:H[p]?=some (b,bl))(hd:w'.heap[b]?=some bl'.den)(hs:∀k,k≠b->w'.heap[k]?=w.heap[k]?):Rel (aS H p (b,bl')++F) w':=by
 have iN:p<H.length:=(bt.1 hp).1;have hHp:H[p]=(b,bl):=(bt.1 hp).2;rw[nK];have abS:((H.set p (b,bl')++F).map (·.1))=(H++F).map (·.1):=by
  rw[acl,acl,List.map_set];congr 1;apply acg;intro j;rw[acS]
  by_cases hj:p=j
  ·subst hj;simp[iN,hHp]
  ·rw[if_neg hj]
 refine⟨?_,by rw[abS];exact h.nodup⟩;intro x hx;obtain⟨j,hj⟩:=List.getElem?_of_mem hx
 by_cases hjp:j=p
 ·subst hjp;rw[aa2 (by simpa using iN),acS,if_pos rfl,if_pos iN] at hj;obtain rfl:(b,bl')=x:=by simpa using hj
  exact hd
 ·have Z1:(H++F)[j]?=some x:=by
   rcases aa9 j H.length with hl|hl
   ·rw[aa2 (by simpa using hl),acS,if_neg (λ e=>hjp e.symm)] at hj;rw[aa2 hl];exact hj
   ·rw[aa3 (by simpa using hl),ack] at hj;rw[aa3 hl];exact hj
  have u_:x.1≠b:=by
   intro e;have Vj:=h.nodup;rw[List.nodup_iff_pairwise_ne,adp] at Vj;have W0:j<(H++F).length:=(bt.1 Z1).1;have hpl:(H++F)[p]?=some (b,bl):=by rw[aa2 iN];exact hp
   have ahx:p<(H++F).length:=(bt.1 hpl).1;have e1:((H++F).map (·.1))[j]'(by rw[acD];exact W0)=x.1:=by rw[afM,(bt.1 Z1).2]
   have e2:((H++F).map (·.1))[p]'(by rw[acD];exact ahx)=b:=by rw[afM,(bt.1 hpl).2]
   rcases aa9 j p with ZV|Wq
   ·exact Vj j p _ _ ZV (by rw[e1,e2,e])
   ·exact Vj p j _ _ (by omega) (by rw[e1,e2,e])
  rw[hs _ u_];exact h.holds x (go Z1)
theorem Rel.store{H F:HL}{bl bl':Blk}{v:Value}(h:Rel (H++F) w)(hp:H[p]?=some (b,bl))(ha:a.block=b)
  (hd:∀W:World,W.heap[b]?=some bl.den->(W.setCell a v).heap[b]?=some bl'.den):Rel (aS H p (b,bl')++F) (w.setCell a v) :=
 h.upd hp (hd w (h.holds (b,bl) (aaB _ (go hp)))) (λ k hk=>afz _ _ _ _ (by rw[ha];exact hk))
inductive Hint where
 | o (p:Nat)
 |row (p i k:Nat)
 |ro (p:Nat)
 |rorow (p i k:Nat)
 |ix (j:Nat)
 |nw
 |sl (l h:Nat) (e:Bool)
 |mk (l c:Nat)
 |dv
 |sh (n:Nat)
 |gd (b:Bool)
 |sq
 |gen
 |mp (p:Nat) (kv:List (ByteArray×Value)) (v:Value)
 |mq (p:Nat) (kv:List (ByteArray×Value)) (v:Value)
 |sl0 (h:Nat)
structure SS where
 h:HL
 r:HL
 hints:List Hint
 cnt:Nat
 eq:List (Nat×Nat)
 ob:List Prop
 wr:Bool
def bX(P:Program)(n0:Nat){α:Type}:Sem α->SS->Option (α×SS)
 | .pure a,s=>some (a,s)
 | .load _ a k,s=>match s.hints with
   | .o p::hs=>match s.h[p]? with
    |some (b,.lit cs _ _)=>match a.spot,cs[a.off]? with
     |none,some v=>bX P n0 (k v) { s with hints:=hs,eq:=(a.block,b)::s.eq }
     |_,_=>none
    |_=>none
   | .row p i j::hs=>match s.h[p]? with
    |some (b,.rows w n g _ _)=>match a.spot,decide (j<w) with
     |none,true=>bX P n0 (k (g i j)) { s with hints:=hs,eq:=(a.block,b)::s.eq,ob:=(a.off=i*w+j/\i<n)::s.ob }
     |_,_=>none
    |_=>none
   | .ro p::hs=>match s.r[p]? with
    |some (b,.lit cs _ _)=>match a.spot,cs[a.off]? with
     |none,some v=>bX P n0 (k v) { s with hints:=hs,eq:=(a.block,b)::s.eq }
     |_,_=>none
    |_=>none
   | .rorow p i j::hs=>match s.r[p]? with
    |some (b,.rows w n g _ _)=>match a.spot,decide (j<w) with
     |none,true=>bX P n0 (k (g i j)) { s with hints:=hs,eq:=(a.block,b)::s.eq,ob:=(a.off=i*w+j/\i<n)::s.ob }
     |_,_=>none
    |_=>none
   |_=>none
 | .store _ a v k,s=>match v with
   | .agg _=>none
   | .tuple _=>none
   |v=>match s.hints with
    | .o p::hs=>match s.h[p]? with
     |some (b,.lit cs t fz)=>match a.spot,decide (a.off<cs.length),decide (fz.2=0) with
      |none,true,true=>match s.wr with
       |false=>none
       |true=>bX P n0 k { s with h:=aS s.h p (b,.lit (aS cs a.off v) t fz),hints:=hs,eq:=(a.block,b)::s.eq }
      |_,_,_=>none
     |_=>none
    | .row p i j::hs=>match s.h[p]? with
     |some (b,.rows w n g t fz)=>match a.spot,decide (j<w),decide (fz.2=0) with
      |none,true,true=>match s.wr with
       |false=>none
       |true=>bX P n0 k { s with h:=aS s.h p (b,.rows w n (db g i j v) t fz),hints:=hs,eq:=(a.block,b)::s.eq,ob:=(a.off=i*w+j/\i<n)::s.ob }
      |_,_,_=>none
     |_=>none
    |_=>none
 | .new o k,s=>match s.wr with
  |false=>none
  |true=>match o with
   | .cells c ty fz=>bX P n0 (k (n0+s.cnt)) { s with h:=(n0+s.cnt,.lit c.toList ty fz)::s.h,cnt:=s.cnt+1 }
   |o=>bX P n0 (k (n0+s.cnt)) { s with h:=(n0+s.cnt,.obj o)::s.h,cnt:=s.cnt+1 }
 | .program k,s=>bX P n0 (k P) s
 | .mark _ k,s=>bX P n0 k s
 | .getObj r k,s=>match s.hints with
   | .o p::hs=>match s.h[p]? with
    |some (b,.obj o)=>match o with
     | .cells _ _ _=>none
     |o=>bX P n0 (k o) { s with hints:=hs,eq:=(r,b)::s.eq }
    |_=>none
   |_=>none
 | .setObj r o k,s=>match s.hints with
   | .o p::hs=>match s.h[p]?,s.wr with
    |some (b,.obj o'),true=>match o' with
     | .cells _ _ _=>none
     |_=>bX P n0 k { s with h:=aS s.h p (b,.obj o),hints:=hs,eq:=(r,b)::s.eq }
    |_,_=>none
   |_=>none
 |_,_=>none
theorem xq{cs:List Value}{v:Value}(ha:a.block=b)(hs:a.spot=none)(h:W.heap[b]?=some (Blk.lit cs ty fz).den) :
  (W.setCell a v).heap[b]?=some (Blk.lit (aS cs a.off v) ty fz).den:=by
 subst ha;simp only[World.setCell,acf,if_true,h,UV,Blk.den,hs,Option.isSome_none,adJ,if_false,nK];simp
theorem vG{w:Nat}{v:Value}(ha:a.block=b)(hs:a.spot=none)(ho:a.off=i*w+k)(hi:i<n)(hk:k<w)
  (h:W.heap[b]?=some (Blk.rows w n g ty fz).den):(W.setCell a v).heap[b]?=some (Blk.rows w n (db g i k v) ty fz).den:=by
 subst ha;simp only[World.setCell,acf,if_true,h,UV,Blk.den,hs,Option.isSome_none,adJ,if_false,<- Aw hi hk,ho];simp
theorem dj{s:Sem α}:∀ (ss AS:SS) (x:α),bX P n0 s ss=some (x,AS)->(∀p∈ss.eq,p∈AS.eq)/\(∀p∈ss.ob,p∈AS.ob)/\AS.r=ss.r/\AS.wr=ss.wr:=by
 induction s with
 |pure a=>intro ss AS x h;rw[bX] at h;cases h;exact⟨λ _ h=>h,λ _ h=>h,rfl,rfl⟩
 |load m a k ih=>
  intro ss AS x h;rw[bX] at h;split at h
  case h_5=>cases h
  all_goals
   split at h
   case h_2=>cases h
   split at h
   case h_2=>cases h
   obtain⟨h1,h2,h3⟩:=ih _ _ _ _ h;exact⟨λ p hp=>h1 p (aaD _ hp),λ p hp=>h2 p (by first|exact hp|exact aaD _ hp),h3⟩
 |store m a v k ih=>
  intro ss AS x h;rw[bX.eq_def] at h;dsimp only at h;split at h
  ·cases h
  ·cases h
  ·split at h
   case h_3=>cases h
   all_goals
    split at h
    case h_2=>cases h
    split at h
    case h_2=>cases h
    split at h
    ·cases h
    obtain⟨h1,h2,h3⟩:=ih _ _ _ h;exact⟨λ p hp=>h1 p (aaD _ hp),λ p hp=>h2 p (by first|exact hp|exact aaD _ hp),h3⟩
 |new o k ih=>
  intro ss AS x h;rw[bX.eq_def] at h;dsimp only at h;split at h
  ·cases h
  split at h <;> (have h1:=ih _ _ _ _ h;exact h1)
 |program k ih=>intro ss AS x h;rw[bX] at h;exact ih _ _ _ _ h
 |mark m k ih=>intro ss AS x h;rw[bX] at h;exact ih _ _ _ h
 |getObj r k ih=>
  intro ss AS x h;rw[bX.eq_def] at h;dsimp only at h;split at h
  case h_2=>cases h
  split at h
  case h_2=>cases h
  split at h
  ·cases h
  obtain⟨h1,h2,h3⟩:=ih _ _ _ _ h;exact⟨λ p hp=>h1 p (aaD _ hp),h2,h3⟩
 |setObj r o k ih=>
  intro ss AS x h;rw[bX.eq_def] at h;dsimp only at h;split at h
  case h_2=>cases h
  split at h
  case h_2=>cases h
  split at h
  ·cases h
  obtain⟨h1,h2,h3⟩:=ih _ _ _ h;exact⟨λ p hp=>h1 p (aaD _ hp),h2,h3⟩
 |_=>intro ss AS x h;simp[bX] at h
theorem CF{s:Sem α}:∀ (ss AS:SS) (x:α),bX P n0 s ss=some (x,AS)->ss.wr=false->AS.h=ss.h:=by
 induction s with
 |pure a=>intro ss AS x h _;rw[bX] at h;cases h;rfl
 |load m a k ih=>
  intro ss AS x h hw;rw[bX] at h;split at h
  case h_5=>cases h
  all_goals
   split at h
   case h_2=>cases h
   split at h
   case h_2=>cases h
   exact(ih _ _ _ _ h hw :)
 |store m a v k ih=>
  intro ss AS x h hw;rw[bX.eq_def] at h;dsimp only at h;split at h
  ·cases h
  ·cases h
  ·split at h
   case h_3=>cases h
   all_goals
    split at h
    case h_2=>cases h
    split at h
    case h_2=>cases h
    split at h
    ·cases h
    rename_i e;rw[hw] at e;cases e
 |new o k ih=>
  intro ss AS x h hw;rw[bX.eq_def] at h;dsimp only at h;split at h
  ·cases h
  rename_i e;rw[hw] at e;cases e
 |program k ih=>intro ss AS x h hw;rw[bX] at h;exact ih _ _ _ _ h hw
 |mark m k ih=>intro ss AS x h hw;rw[bX] at h;exact ih _ _ _ h hw
 |getObj r k ih=>
  intro ss AS x h hw;rw[bX.eq_def] at h;dsimp only at h;split at h
  case h_2=>cases h
  split at h
  case h_2=>cases h
  split at h
  ·cases h
  exact(ih _ _ _ _ h hw :)
 |setObj r o k ih=>
  intro ss AS x h hw;rw[bX.eq_def] at h;dsimp only at h;split at h
  case h_2=>cases h
  split at h
  case h_2=>cases h
  rename_i e;rw[hw] at e;cases e
 |_=>intro ss AS x h;simp[bX] at h
theorem rk{cs:List Value}{v:Value}(h:w.heap[b]?=some (Blk.lit cs ty fz).den)(ha:a.block=b)(hs:a.spot=none)(hv:cs[a.off]?=some v):w.cell? a=some v:=by
 subst ha;simp[World.cell?,h,Blk.den,hs,hv]
theorem lR{w:Nat}(h:W.heap[b]?=some (Blk.rows w n g ty fz).den)(ha:a.block=b)(hs:a.spot=none)(ho:a.off=i*w+k)(hi:i<n)(hk:k<w):W.cell? a=some (g i k):=by
 subst ha;simp[World.cell?,h,Blk.den,hs,ho,mY hi hk]
theorem t1{bl:Blk}(h:w.heap[b]?=some bl.den)(ha:a.block=b)(hz:match bl with | .lit _ _ fz=>fz.2=0 | .rows _ _ _ _ fz=>fz.2=0 | .obj _=>False):w.frozen? a=false:=by
 subst ha;cases bl with
 |lit cs ty fz=>obtain⟨lo,hi⟩:=fz;simp only at hz;subst hz;simp[World.frozen?,h,Blk.den]
 |rows w n g ty fz=>obtain⟨lo,hi⟩:=fz;simp only at hz;subst hz;simp[World.frozen?,h,Blk.den]
 |obj o=>exact hz.elim
theorem t6{m:Mode}{v u:Value}{k:Sem α}(h1:∀cs,v≠ .agg cs)(h2:∀cs,v≠ .tuple cs)(hc:w.cell? a=some u)(hf:w.frozen? a=false):(Sem.store m a v k).run P w=k.run P (w.setCell a v):=by
 rw[acW];cases v <;> first|exact absurd rfl (h1 _)|exact absurd rfl (h2 _)|simp[hc,hf]
theorem mZ{F:HL}{s:Sem α}:∀ (ss AS:SS) (x:α) (w:World),bX P n0 s ss=some (x,AS)->
  (∀p∈AS.eq,p.1=p.2)->(∀p∈AS.ob,p)->Rel (ss.h++F) w->(∀y∈ss.r,y∈F)->(ss.wr=true->n0+ss.cnt=w.heap.size)->
  ∃w',s.run P w=.ok x w'/\Rel (AS.h++F) w'/\Below 0 w w'/\(ss.wr=true->n0+AS.cnt=w'.heap.size)/\(ss.wr=false->w'=w):=by
 induction s with
 |pure a=>intro ss AS x w h _ _ hR _ hn;rw[bX] at h;cases h;exact⟨w,rfl,hR,jt _ _,hn,λ _=>rfl⟩
 |load m a k ih=>
  intro ss AS x w h heq iS hR hr hn;rw[bX] at h;have Wc:∀ (p b:Nat) (bl:Blk),ss.h[p]?=some (b,bl)->w.heap[b]?=some bl.den:=λ p b bl hp=>hR.holds (b,bl) (aaB _ (go hp));have US:∀ (p b:Nat) (bl:Blk),ss.r[p]?=some (b,bl)->w.heap[b]?=some bl.den:=λ p b bl hp=>hR.holds (b,bl) (aaz _ (hr _ (go hp)));split at h
  case h_5=>cases h
  ·split at h
   case h_2=>cases h
   rename_i hp;split at h
   case h_2=>cases h
   obtain⟨k1,k2,k3⟩:=dj _ _ _ h;rename_i v hs hv;have hc:=rk (Wc _ _ _ hp) (heq _ (k1 _ (aaC))) hs hv;obtain⟨w',h1,h2,h3,h4,h5⟩:=ih _ _ _ _ w h heq iS hR hr hn;exact⟨w',by rw[Sem.run,hc];exact h1,h2,h3,h4,h5⟩
  ·split at h
   case h_2=>cases h
   rename_i hp;split at h
   case h_2=>cases h
   obtain⟨k1,k2,k3⟩:=dj _ _ _ h;rename_i hs hv;obtain⟨o1,o2⟩:=iS _ (k2 _ (aaC));have hc:=lR (Wc _ _ _ hp) (heq _ (k1 _ (aaC))) hs o1 o2 (by simpa using hv);obtain⟨w',h1,h2,h3,h4,h5⟩:=ih _ _ _ _ w h heq iS hR hr hn;exact⟨w',by rw[Sem.run,hc];exact h1,h2,h3,h4,h5⟩
  ·split at h
   case h_2=>cases h
   rename_i hp;split at h
   case h_2=>cases h
   obtain⟨k1,k2,k3⟩:=dj _ _ _ h;rename_i v hs hv;have hc:=rk (US _ _ _ hp) (heq _ (k1 _ (aaC))) hs hv;obtain⟨w',h1,h2,h3,h4,h5⟩:=ih _ _ _ _ w h heq iS hR hr hn;exact⟨w',by rw[Sem.run,hc];exact h1,h2,h3,h4,h5⟩
  ·split at h
   case h_2=>cases h
   rename_i hp;split at h
   case h_2=>cases h
   obtain⟨k1,k2,k3⟩:=dj _ _ _ h;rename_i hs hv;obtain⟨o1,o2⟩:=iS _ (k2 _ (aaC));have hc:=lR (US _ _ _ hp) (heq _ (k1 _ (aaC))) hs o1 o2 (by simpa using hv);obtain⟨w',h1,h2,h3,h4,h5⟩:=ih _ _ _ _ w h heq iS hR hr hn;exact⟨w',by rw[Sem.run,hc];exact h1,h2,h3,h4,h5⟩
 |store m a v k ih=>
  intro ss AS x w h heq iS hR hr hn;rw[bX.eq_def] at h;dsimp only at h;split at h
  ·cases h
  ·cases h
  ·rename_i hv1 hv2;have Wc:∀ (p b:Nat) (bl:Blk),ss.h[p]?=some (b,bl)->w.heap[b]?=some bl.den:=λ p b bl hp=>hR.holds (b,bl) (aaB _ (go hp));split at h
   case h_3=>cases h
   ·split at h
    case h_2=>cases h
    rename_i hp;split at h
    case h_2=>cases h
    rename_i hs iN hz;split at h
    ·cases h
    rename_i Xb;obtain⟨k1,k2,k3⟩:=dj _ _ _ h;have ha:=heq _ (k1 _ (aaC));have ZV:a.off<_:=abh iN;have hc:=rk (Wc _ _ _ hp) ha hs (aa1 ZV);have hf:=t1 (Wc _ _ _ hp) ha (by simpa using hz);have IF:=hR.store (v:=v) hp ha (λ W hW=>xq ha hs hW);obtain⟨w',h1,h2,h3,h4,-⟩:=ih _ _ _ (w.setCell a v) h heq iS IF hr (λ e=>by simpa [World.setCell] using hn e);exact⟨w',by rw[t6 (λ cs e=>hv1 cs e) (λ cs e=>hv2 cs e) hc hf];exact h1,h2,((jt 0 w).setCell (aaJ _) v).trans h3,h4,λ e=>by rw[Xb] at e;cases e⟩
   ·split at h
    case h_2=>cases h
    rename_i hp;split at h
    case h_2=>cases h
    rename_i hs iN hz;split at h
    ·cases h
    rename_i Xb;obtain⟨k1,k2,k3⟩:=dj _ _ _ h;have ha:=heq _ (k1 _ (aaC));obtain⟨o1,o2⟩:=iS _ (k2 _ (aaC));have hk:_<_:=abh iN;have hc:=lR (Wc _ _ _ hp) ha hs o1 o2 hk;have hf:=t1 (Wc _ _ _ hp) ha (by simpa using hz);have IF:=hR.store (v:=v) hp ha (λ W hW=>vG ha hs o1 o2 hk hW);obtain⟨w',h1,h2,h3,h4,-⟩:=ih _ _ _ (w.setCell a v) h heq iS IF hr (λ e=>by simpa [World.setCell] using hn e);exact⟨w',by rw[t6 (λ cs e=>hv1 cs e) (λ cs e=>hv2 cs e) hc hf];exact h1,h2,((jt 0 w).setCell (aaJ _) v).trans h3,h4,λ e=>by rw[Xb] at e;cases e⟩
 |new o k ih=>
  intro ss AS x w h heq iS hR hr hn;rw[bX.eq_def] at h;dsimp only at h;have hb:∀o':Obj,Below 0 w { w with heap:=w.heap.push o' }:=λ o'=>⟨rfl,rfl,rfl,by simp,λ k hk=>by omega⟩;split at h
  ·cases h
  rename_i Xb
  replace hn:=hn Xb
  split at h
  ·rename_i c ty fz;have IF:=hR.cons (.lit c.toList ty fz) (o:=.cells c ty fz) (by simp[Blk.den]);rw[<- hn] at IF;obtain⟨w',h1,h2,h3,h4,-⟩:=ih _ _ _ _ _ h heq iS IF hr (λ _=>by simp;omega);refine⟨w',?_,h2,(hb _).trans h3,h4,λ e=>by rw[Xb] at e;cases e⟩;rw[Sem.run,<- hn];exact h1
  ·have IF:=hR.cons (.obj o) (o:=o) rfl;rw[<- hn] at IF;obtain⟨w',h1,h2,h3,h4,-⟩:=ih _ _ _ _ _ h heq iS IF hr (λ _=>by simp;omega);refine⟨w',?_,h2,(hb _).trans h3,h4,λ e=>by rw[Xb] at e;cases e⟩;rw[Sem.run,<- hn];exact h1
 |program k ih=>
  intro ss AS x w h heq iS hR hr hn;rw[bX] at h;obtain⟨w',h1,h2,h3,h4,h5⟩:=ih _ _ _ _ w h heq iS hR hr hn;exact⟨w',by rw[Sem.run];exact h1,h2,h3,h4,h5⟩
 |mark m k ih=>
  intro ss AS x w h heq iS hR hr hn;rw[bX] at h;obtain⟨w',h1,h2,h3,h4,h5⟩:=ih _ _ _ w h heq iS hR hr hn;exact⟨w',by rw[Sem.run];exact h1,h2,h3,h4,h5⟩
 |getObj r k ih=>
  intro ss AS x w h heq iS hR hr hn;rw[bX.eq_def] at h;dsimp only at h;split at h
  case h_2=>cases h
  split at h
  case h_2=>cases h
  rename_i hp;split at h
  ·cases h
  rename_i o VJ;obtain⟨k1,k2,k3⟩:=dj _ _ _ h;have ha:=heq _ (k1 _ (aaC));simp only at ha;have hb:=hR.holds _ (aaB _ (go hp));simp only[Blk.den] at hb;obtain⟨w',h1,h2,h3,h4,h5⟩:=ih _ _ _ _ w h heq iS hR hr hn;refine⟨w',?_,h2,h3,h4,h5⟩;rw[acW];simp only[ha,hb];exact h1
 |setObj r o k ih=>
  intro ss AS x w h heq iS hR hr hn;rw[bX.eq_def] at h;dsimp only at h;split at h
  case h_2=>cases h
  split at h
  case h_2=>cases h
  rename_i hp Xb;split at h
  ·cases h
  rename_i o' VJ;obtain⟨k1,k2,k3⟩:=dj _ _ _ h;have ha:=heq _ (k1 _ (aaC));simp only at ha;have hb:=hR.holds _ (aaB _ (go hp));simp only[Blk.den] at hb;have iN:=aW hb;have IF:=hR.upd (w':={ w with heap:=w.heap.setIfInBounds r o }) (bl':=.obj o) hp (by
   subst ha;show (w.heap.setIfInBounds r o)[r]?=_;rw[lv iN];rfl) (λ k' hk=>by
   subst ha;show (w.heap.setIfInBounds r o)[k']?=_;rw[vo (λ e=>hk e.symm)])
  have VY:Below 0 w { w with heap:=w.heap.setIfInBounds r o }:=⟨rfl,rfl,rfl,by simp,λ k hk=>by omega⟩;obtain⟨w',h1,h2,h3,h4,-⟩:=ih _ _ _ { w with heap:=w.heap.setIfInBounds r o } h heq iS IF hr (λ e=>by simpa using hn e);refine⟨w',?_,h2,VY.trans h3,h4,λ e=>by rw[Xb] at e;cases e⟩;rw[acW];simp only[ha,hb];rw[ha] at h1;exact h1
 |_=>intro ss AS x w h;simp[bX] at h
end Go.Proofs.YtjokannbjmndfaaGreatDoor
