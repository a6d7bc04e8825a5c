import Derived.Test.YtkhifpbokgabbaaGreatDoorW04
set_option maxHeartbeats 4000000
set_option maxRecDepth 100000
set_option linter.unusedSimpArgs false
set_option linter.unusedVariables false
namespace Go.Proofs.YtkhifpbokgabbaaGreatDoor
open Go.RowKit
theorem op_sound {r:Option Nat} {P:Program} {n0 N:Nat} {D:List Deferred} {F:HL} {ops:Array Oper} {Q:Exit -> Act -> World -> Prop} {rest:List Oper} {o:Oper} {L L':FL} {s s':SS} {a:Act} {w:World}
    (h:seg P n0 N ops.toList [o] L s=some (L',s')) (heq:∀ p ∈ s'.eq,p.1=p.2) (hob:∀ p ∈ s'.ob,p) (hF:Fm N D L a) (hR:Rel (s.h++F) w) (hr:∀ y ∈ s.r,y ∈ F) (hn:s.wr=true -> n0+s.cnt=w.heap.size)
    (hk:∀ a' w',Fm N D L' a' -> Rel (s'.h++F) w' -> Below 0 w w' -> s'.wr=s.wr -> (s'.wr=true -> n0+s'.cnt=w'.heap.size) -> wpListIn (Wr r) 0 P ops Q rest a' w'):wpListIn (Wr r) 0 P ops Q (o :: rest) a w:=by
  rw [wpListIn]
  rw [seg] at h
  split at h
  · cases h
  · rename_i s1 hw
    split at h
    case h_2=>cases h
    rename_i L1 hp
    rw [seg] at h;cases h
    obtain ⟨a1,a2,a3,a4⟩:=wantL_keeps hw
    obtain ⟨c1,c2,c3⟩:=wantL_sound hw hF hob
    rw [if_neg (by rw [c1];simp)]
    refine ⟨λ _ _=>trivial,?_⟩
    exact hk _ w (hF.put hp) (by rw [c2];exact hR) (Below.refl _ _) a4 (λ e=>by rw [c3];exact hn (a4.symm.trans e))
  · rename_i s1 hw
    split at h
    · cases h
    rename_i hok
    obtain ⟨a1,a2,a3,a4⟩:=wantL_keeps hw
    split at h
    · rename_i v s2 he
      split at h
      case h_2=>cases h
      rename_i L1 hp
      rw [seg] at h;cases h
      obtain ⟨d1,d2,d3,d4⟩:=ev_keeps he
      obtain ⟨c1,c2,c3⟩:=wantL_sound hw hF (λ p hp=>hob p (d2 p hp))
      obtain ⟨w1,e1,e2,e3,e4,-⟩:=ev_sound (w:=w) he heq hob (by rw [c2];exact hR) (by rw [a3];exact hr) (λ e=>by rw [c3];exact hn (a4.symm.trans e))
      rw [if_pos c1]
      refine ⟨λ _ _=>trivial,?_⟩
      rw [hF.sem hok,e1,Oper.uponIn_value]
      exact hk _ w1 (hF.put hp) e2 e3 (d4.trans a4) (λ e=>e4 (d4.symm.trans e))
    · rename_i s2 he
      split at h
      case h_2=>cases h
      rename_i L1 hp
      rw [seg] at h;cases h
      obtain ⟨d1,d2,d3,d4⟩:=ev_keeps he
      obtain ⟨c1,c2,c3⟩:=wantL_sound hw hF (λ p hp=>hob p (d2 p hp))
      obtain ⟨w1,e1,e2,e3,e4,-⟩:=ev_sound (w:=w) he heq hob (by rw [c2];exact hR) (by rw [a3];exact hr) (λ e=>by rw [c3];exact hn (a4.symm.trans e))
      rw [if_pos c1]
      refine ⟨λ _ _=>trivial,?_⟩
      rw [hF.sem hok,e1,Oper.uponIn_skip]
      exact hk _ w1 (hF.put hp) e2 e3 (d4.trans a4) (λ e=>e4 (d4.symm.trans e))
    · cases h
inductive KI where
  | thn (y:Code)
  | blk (id:Nat)
  | scp
  | met (K:Act -> World -> Prop)
  | rnd (c:Code) (n:Nat)
inductive Fo where
  | code (c:Code)
  | ops (ops:Array Oper) (i:Nat)
  | ex (e:Exit)
  | drw (ops:Array Oper) (listed:List Bool)
structure Cfg where
  c:Fo
  k:List KI
  L:FL
  A:HL
  Ts:List HL
def roundsR (r:Option Nat) (P:Program) (c:Code) (Q:Exit -> Act -> World -> Prop):Nat -> Act -> World -> Prop
  | 0,_,_=>False
  | n+1,a,w=>c.wpIn (Wr r) 0 P (Exit.then (roundsR r P c Q n) Q) a w
def denK (r:Option Nat) (P:Program):List KI -> (Exit -> Act -> World -> Prop) -> Exit -> Act -> World -> Prop
  | [],Q=>Q
  | .thn y :: k,Q=>Exit.then (y.wpIn (Wr r) 0 P (denK r P k Q)) (denK r P k Q)
  | .blk id :: k,Q=>Exit.inBlock id (denK r P k Q)
  | .scp :: k,Q=>Exit.noGoto (denK r P k Q)
  | .met K :: k,Q=>Exit.then K (denK r P k Q)
  | .rnd c n :: k,Q=>Exit.then (roundsR r P c (denK r P k Q) n) (denK r P k Q)
def Wf (r:Option Nat) (P:Program) (Q:Exit -> Act -> World -> Prop) (c:Fo) (k:List KI) (a:Act) (w:World):Prop:=match c with
  | .code c=>c.wpIn (Wr r) 0 P (denK r P k Q) a w
  | .ops ops i=>wpListIn (Wr r) 0 P ops (denK r P k Q) (ops.toList.drop i) a w
  | .ex e=>denK r P k Q e a w
  | .drw _ _=>False
def stp (P:Program) (n0 N:Nat) (c:Fo) (k:List KI) (L:FL) (s:SS):Option (Fo × List KI × FL × SS):=match c with
  | .code (.seq x y)=>some (.code x,.thn y :: k,L,s)
  | .code (.region _ ops false)=>some (.ops ops 0,k,L,s)
  | .code (.block id c)=>some (.code c,.blk id :: k,L,s)
  | .code .skip=>some (.ex .normal,k,L,s)
  | .code (.exit id)=>some (.ex (.exit id),k,L,s)
  | .code (.scope c)=>some (.code c,.scp :: k,L,s)
  | .code (.label _)=>some (.ex .normal,k,L,s)
  | .code (.cond c x y)=>match inL L c,rho L c with
    | true,.bool b=>match s.hints with
      | .gd v :: hs=>some (.code (if v then x else y),k,L,{ s with hints:=hs,ob:=(b=v) :: s.ob })
      | _=>some (.code (if b then x else y),k,L,s)
    | _,_=>none
  | .ops ops i=>match ops.toList[i]? with
    | none=>some (.ex .normal,k,L,s)
    | some o=>match seg P n0 N ops.toList [o] L s with
      | some (L,s)=>some (.ops ops (i+1),k,L,s)
      | none=>none
  | .ex .normal=>match k with
    | .thn y :: k=>some (.code y,k,L,s)
    | .blk _ :: k=>some (.ex .normal,k,L,s)
    | .scp :: k=>some (.ex .normal,k,L,s)
    | .rnd c (n+1) :: k=>some (.code c,.rnd c n :: k,L,s)
    | _=>none
  | .ex (.exit id)=>match k with
    | .thn _ :: k=>some (.ex (.exit id),k,L,s)
    | .blk id' :: k=>some (.ex (if id=id' then .normal else .exit id),k,L,s)
    | .scp :: k=>some (.ex (.exit id),k,L,s)
    | .met _ :: k=>some (.ex (.exit id),k,L,s)
    | .rnd _ _ :: k=>some (.ex (.exit id),k,L,s)
    | []=>none
  | _=>none
theorem seg1_keeps {P:Program} {n0 N:Nat} {ops:List Oper} {o:Oper} {L L':FL} {s s':SS} (h:seg P n0 N ops [o] L s=some (L',s')):s'.wr=s.wr:=by
  rw [seg] at h
  split at h
  · cases h
  · rename_i s1 hw
    split at h
    case h_2=>cases h
    rw [seg] at h;cases h
    exact (wantL_keeps hw).2.2.2
  · rename_i s1 hw
    split at h
    · cases h
    split at h
    · rename_i v s2 he
      split at h
      case h_2=>cases h
      rw [seg] at h;cases h
      exact (ev_keeps he).2.2.2.trans (wantL_keeps hw).2.2.2
    · rename_i s2 he
      split at h
      case h_2=>cases h
      rw [seg] at h;cases h
      exact (ev_keeps he).2.2.2.trans (wantL_keeps hw).2.2.2
    · cases h
theorem stp_keeps {P:Program} {n0 N:Nat} {c c':Fo} {k k':List KI} {L L':FL} {s s':SS} (h:stp P n0 N c k L s=some (c',k',L',s')):(∀ p ∈ s.eq,p ∈ s'.eq) /\ (∀ p ∈ s.ob,p ∈ s'.ob) /\ s'.r=s.r /\ s'.wr=s.wr:=by
  have triv:(∀ p ∈ s.eq,p ∈ s.eq) /\ (∀ p ∈ s.ob,p ∈ s.ob) /\ s.r=s.r /\ s.wr=s.wr:=⟨λ _ h=>h,λ _ h=>h,rfl,rfl⟩
  unfold stp at h
  split at h
  case h_8 =>
    split at h
    · split at h
      · cases h;exact ⟨λ _ h=>h,λ _ h=>List.mem_cons_of_mem _ h,rfl,rfl⟩
      · cases h;exact triv
    · cases h
  case h_9 =>
    split at h
    · cases h;exact triv
    · split at h
      · rename_i hs
        cases h
        obtain ⟨b1,b2,b3⟩:=seg_keeps _ _ _ _ _ hs
        exact ⟨b1,b2,b3,seg1_keeps hs⟩
      · cases h
  case h_10=>split at h <;> first | (cases h;done) | (cases h;exact triv)
  case h_11=>split at h <;> first | (cases h;done) | (cases h;exact triv)
  all_goals first | (cases h;done) | (cases h;exact triv)
theorem stp_sound {r:Option Nat} {P:Program} {n0 N:Nat} {D:List Deferred} {F:HL} {Q:Exit -> Act -> World -> Prop} {c c':Fo} {k k':List KI} {L L':FL} {s s':SS} {a:Act} {w:World}
    (h:stp P n0 N c k L s=some (c',k',L',s')) (heq:∀ p ∈ s'.eq,p.1=p.2) (hob:∀ p ∈ s'.ob,p) (hF:Fm N D L a) (hR:Rel (s.h++F) w) (hr:∀ y ∈ s.r,y ∈ F) (hn:s.wr=true -> n0+s.cnt=w.heap.size)
    (hk:∀ a' w',Fm N D L' a' -> Rel (s'.h++F) w' -> Below 0 w w' -> (s'.wr=true -> n0+s'.cnt=w'.heap.size) -> Wf r P Q c' k' a' w'):Wf r P Q c k a w:=by
  have B:=Below.refl 0 w
  unfold stp at h
  split at h
  · cases h;exact wpIn_seq (hk a w hF hR B hn)
  · cases h;exact wpIn_region_list (by simpa [Wf] using hk a w hF hR B hn)
  · cases h;exact wpIn_block (hk a w hF hR B hn)
  · cases h;exact wpIn_skip (hk a w hF hR B hn)
  · cases h;exact wpIn_exit (hk a w hF hR B hn)
  · cases h;exact wpIn_scope_straight (hk a w hF hR B hn)
  · cases h;exact wpIn_label (hk a w hF hR B hn)
  · split at h
    · rename_i b hi hc
      have e:=hF.eval hi
      rw [hc] at e
      split at h
      · rename_i v hs hh
        cases h
        have hb:b=v:=hob _ List.mem_cons_self
        subst hb
        cases b
        · exact wpIn_cond_false e (hk a w hF hR B hn)
        · exact wpIn_cond_true e (hk a w hF hR B hn)
      · cases h
        cases b
        · exact wpIn_cond_false e (hk a w hF hR B hn)
        · exact wpIn_cond_true e (hk a w hF hR B hn)
    · cases h
  · split at h
    · rename_i ho
      cases h
      show wpListIn _ _ _ _ _ _ _ _
      rw [List.drop_eq_nil_of_le (List.getElem?_eq_none_iff.1 ho)]
      exact hk a w hF hR B hn
    · rename_i o ho
      split at h
      · rename_i hs
        cases h
        show wpListIn _ _ _ _ _ _ _ _
        have hlt:=(List.getElem?_eq_some_iff.1 ho).1
        rw [List.drop_eq_getElem_cons hlt,(List.getElem?_eq_some_iff.1 ho).2]
        exact op_sound hs heq hob hF hR hr hn (λ a' w' h1 h2 h3 _ h4=>hk a' w' h1 h2 h3 h4)
      · cases h
  · split at h
    · cases h;exact hk a w hF hR B hn
    · cases h;exact hk a w hF hR B hn
    · cases h;exact hk a w hF hR B hn
    · cases h;exact hk a w hF hR B hn
    · cases h
  · split at h
    · cases h;exact hk a w hF hR B hn
    · cases h
      have h2:=hk a w hF hR B hn
      unfold Wf at h2
      show (if _=_ then _ else _)
      split
      · rename_i e;rw [if_pos e] at h2;exact h2
      · rename_i e;rw [if_neg e] at h2;exact h2
    · cases h;exact hk a w hF hR B hn
    · cases h;exact hk a w hF hR B hn
    · cases h;exact hk a w hF hR B hn
    · cases h
  · cases h
def adv (P:Program) (n0 N:Nat):Nat -> Fo -> List KI -> FL -> SS -> Option (Fo × List KI × FL × SS)
  | 0,c,k,L,s=>some (c,k,L,s)
  | n+1,c,k,L,s=>match stp P n0 N c k L s with
    | some (c,k,L,s)=>adv P n0 N n c k L s
    | none=>none
theorem adv_keeps {P:Program} {n0 N:Nat}:∀ (n:Nat) {c c':Fo} {k k':List KI} {L L':FL} {s s':SS},adv P n0 N n c k L s=some (c',k',L',s') -> (∀ p ∈ s.eq,p ∈ s'.eq) /\ (∀ p ∈ s.ob,p ∈ s'.ob) /\ s'.r=s.r /\ s'.wr=s.wr
  | 0,_,_,_,_,_,_,s,s',h=>by rw [adv] at h;cases h;exact ⟨λ _ h=>h,λ _ h=>h,rfl,rfl⟩
  | n+1,_,_,_,_,_,_,s,s',h=>by
    rw [adv] at h
    split at h
    · rename_i hs
      obtain ⟨a1,a2,a3,a4⟩:=stp_keeps hs
      obtain ⟨b1,b2,b3,b4⟩:=adv_keeps n h
      exact ⟨λ p hp=>b1 p (a1 p hp),λ p hp=>b2 p (a2 p hp),b3.trans a3,b4.trans a4⟩
    · cases h
theorem adv_sound {r:Option Nat} {P:Program} {n0 N:Nat} {D:List Deferred} {F:HL} {Q:Exit -> Act -> World -> Prop}:∀ (n:Nat) {c c':Fo} {k k':List KI} {L L':FL} {s s':SS} {a:Act} {w:World},
    adv P n0 N n c k L s=some (c',k',L',s') -> (∀ p ∈ s'.eq,p.1=p.2) -> (∀ p ∈ s'.ob,p) -> Fm N D L a -> Rel (s.h++F) w -> (∀ y ∈ s.r,y ∈ F) -> (s.wr=true -> n0+s.cnt=w.heap.size) ->
    (∀ a' w',Fm N D L' a' -> Rel (s'.h++F) w' -> Below 0 w w' -> Wf r P Q c' k' a' w') -> Wf r P Q c k a w
  | 0,_,_,_,_,_,_,s,s',a,w,h,heq,hob,hF,hR,hr,hn,hk=>by rw [adv] at h;cases h;exact hk a w hF hR (Below.refl _ _)
  | n+1,_,_,_,_,_,_,s,s',a,w,h,heq,hob,hF,hR,hr,hn,hk=>by
    rw [adv] at h
    split at h
    · rename_i hs
      obtain ⟨a1,a2,a3,a4⟩:=stp_keeps hs
      obtain ⟨b1,b2,b3,b4⟩:=adv_keeps n h
      exact stp_sound hs (λ p hp=>heq p (b1 p hp)) (λ p hp=>hob p (b2 p hp)) hF hR hr hn (λ a' w' h1 h2 h3 h4=>adv_sound n h heq hob h1 h2 (by rw [a3];exact hr) h4 (λ a2 w2 k1 k2 k3=>hk a2 w2 k1 k2 (h3.trans k3)))
    · cases h
structure RN (r:Option Nat) (P:Program) (N:Nat) (D:List Deferred) (F:HL) (w0:World) (R:HL) (s:Cfg) (Q:Exit -> Act -> World -> Prop):Prop where
  h:(∀ y ∈ R,y ∈ F) -> ∀ a w,Fm N D s.L a -> Rel (ap s.A s.Ts++F) w -> Below 0 w0 w -> Wf r P Q s.c s.k a w
def advR (P:Program) (n0 N n:Nat) (R:HL) (hints:List Hint) (s:Cfg):Option (Fo × List KI × FL × SS):=adv P n0 N n s.c s.k s.L ⟨s.A,R,hints,0,[],[],true⟩
def advC (P:Program) (n0 N n:Nat) (R:HL) (hints:List Hint) (s:Cfg):Cfg:=match advR P n0 N n R hints s with
  | some (c,k,L,ss)=>⟨c,k,L,ss.h,s.Ts⟩
  | none=>s
def advE (x:Option (Fo × List KI × FL × SS)):List Nat:=match x with
  | some (_,_,_,ss)=>ss.eq.map (·.2)
  | none=>[]
def advK (x:Option (Fo × List KI × FL × SS)):Option (List Nat × List Prop):=match x with
  | some (_,_,_,ss)=>match ss.hints with
    | []=>some (ss.eq.map (·.1),ss.ob)
    | _=>none
  | none=>none
theorem ap_assoc (A:HL) (Ts:List HL) (F:HL):ap A Ts++F=A++(Ts.flatten++F):=List.append_assoc _ _ _
theorem in_ap {A:HL} {Ts:List HL} {F:HL} {x:Nat × Blk} (i:Nat) (h:A[i]?=some x:=by kernel_rfl):x ∈ ap A Ts++F:=List.mem_append_left _ (List.mem_append_left _ (List.mem_of_getElem? h))
theorem in_apX {X A:HL} {Ts:List HL} {F:HL} {x:Nat × Blk} (i:Nat) (h:A[i]?=some x:=by kernel_rfl):x ∈ X++(ap A Ts++F):=List.mem_append_right _ (in_ap i h)
theorem sub_ap {A:HL} {Ts:List HL} {F T:HL} (j:Nat) (h:Ts[j]?=some T:=by kernel_rfl):∀ x ∈ T,x ∈ ap A Ts++F:=λ x hx =>
  List.mem_append_left _ (List.mem_append_right _ (List.mem_flatten.2 ⟨T,List.mem_of_getElem? h,hx⟩))
theorem sub_apX {X A:HL} {Ts:List HL} {F T:HL} (j:Nat) (h:Ts[j]?=some T:=by kernel_rfl):∀ x ∈ T,x ∈ X++(ap A Ts++F):=λ x hx=>List.mem_append_right _ (sub_ap j h x hx)
theorem ro_ap {A:HL} {Ts:List HL} {F:HL} {x:Nat × Blk} (h:x ∈ F):x ∈ ap A Ts++F:=List.mem_append_right _ h
theorem ro_apX {X A:HL} {Ts:List HL} {F:HL} {x:Nat × Blk} (h:x ∈ F):x ∈ X++(ap A Ts++F):=List.mem_append_right _ (List.mem_append_right _ h)
def ow (p n:Nat):List Hint:=List.replicate n (.own p)
abbrev I64 (n:Int):Prop:=-9223372036854775808 <= n /\ n <= 9223372036854775807
section
variable {r:Option Nat} {P:Program} {N:Nat} {D:List Deferred} {F:HL} {w0:World} {R:HL} {s:Cfg} {Q:Exit -> Act -> World -> Prop}
theorem RN.goO (n:Nat) (hints:List Hint) (Ob:Nat -> List Prop) (hob:∀ n0,AllP (Ob n0)) (hk:∀ n0,RN r P N D F w0 R (advC P n0 N n R hints s) Q)
    (h:∀ n0,advK (advR P n0 N n R hints s)=some (advE (advR P n0 N n R hints s),Ob n0):=by intro n0;kernel_rfl):RN r P N D F w0 R s Q:=by
  refine ⟨λ hR a w hF hRel hB=>?_⟩
  have h':=h w.heap.size
  have hk':=(hk w.heap.size).h hR
  unfold advC at hk'
  generalize hx:advR P w.heap.size N n R hints s=x at h' hk'
  unfold advK at h'
  split at h'
  case h_2=>cases h'
  rename_i c k L ss
  split at h'
  case h_2=>cases h'
  simp only [advE,Option.some.injEq,Prod.mk.injEq] at h'
  obtain ⟨e1,e2⟩:=h'
  rw [ap_assoc] at hRel
  refine adv_sound n hx (pairs_eq e1 rfl) (by rw [e2];exact AllP.mem (hob _)) hF hRel (λ y hy=>List.mem_append_right _ (hR y hy)) (λ _=>rfl) ?_
  intro a' w' h1 h2 h3
  exact hk' a' w' h1 (by rw [ap_assoc];exact h2) (hB.trans h3)
theorem RN.go (n:Nat) (hints:List Hint) (hk:∀ n0,RN r P N D F w0 R (advC P n0 N n R hints s) Q)
    (h:∀ n0,advK (advR P n0 N n R hints s)=some (advE (advR P n0 N n R hints s),[]):=by intro n0;kernel_rfl):RN r P N D F w0 R s Q:=RN.goO n hints (λ _=>[]) (λ _=>trivial) hk h
theorem RN.goP (n:Nat) (hints:List Hint) (Ob:List Prop) (hk:∀ n0,RN r P N D F w0 R (advC P n0 N n R hints s) Q) (hob:AllP Ob:=by simp only [AllP,I64,and_true,true_and] <;> (repeat' with_reducible refine And.intro ?_ ?_) <;> omega)
    (h:∀ n0,advK (advR P n0 N n R hints s)=some (advE (advR P n0 N n R hints s),Ob):=by intro n0;kernel_rfl):RN r P N D F w0 R s Q:=RN.goO n hints (λ _=>Ob) (λ _=>hob) hk h
def fixC (t:Nat) (b:Bool) (s:Cfg):Cfg:=match s with
  | ⟨c,k,L,A,Ts⟩=>⟨c,k,(t,.bool b) :: L,A,Ts⟩
theorem Fm.fix {a:Act} {L:FL} {t:Nat} {v:Value} (hF:Fm N D L a) (h:L.lookup t=some v):Fm N D ((t,v) :: L) a:=⟨hF.size,hF.defs,λ t' v' h'=>by
  rw [List.lookup_cons] at h'
  by_cases e:t'=t
  · subst e;simp at h';subst h';exact hF.has _ _ h
  · have:(t' == t)=false:=by simpa using e
    rw [this] at h';exact hF.has _ _ h'⟩
theorem RN.fx {b v:Bool} (t:Nat) (hb:b=v) (hk:RN r P N D F w0 R (fixC t v s) Q) (h:s.L.lookup t=some (.bool b):=by kernel_rfl):RN r P N D F w0 R s Q:=by
  subst hb
  exact ⟨λ hR a w h1 h2 h3=>hk.h hR a w (h1.fix h) h2 h3⟩
theorem RN.em (p:Prop) [Decidable p] (t:Nat) (h1:p -> RN r P N D F w0 R (fixC t true s) Q) (h2:¬ p -> RN r P N D F w0 R (fixC t false s) Q) (h:s.L.lookup t=some (.bool (decide p)):=by kernel_rfl):RN r P N D F w0 R s Q:=by
  by_cases hp:p
  · exact RN.fx t (decide_eq_true hp) (h1 hp) h
  · exact RN.fx t (decide_eq_false hp) (h2 hp) h
theorem RN.en (p:Prop) [Decidable p] (t:Nat) (h1:p -> RN r P N D F w0 R (fixC t false s) Q) (h2:¬ p -> RN r P N D F w0 R (fixC t true s) Q) (h:s.L.lookup t=some (.bool (!decide p)):=by kernel_rfl):RN r P N D F w0 R s Q:=by
  by_cases hp:p
  · exact RN.fx t (by simp [hp]) (h1 hp) h
  · exact RN.fx t (by simp [hp]) (h2 hp) h
theorem RN.eb (b:Bool) (t:Nat) (h1:b=true -> RN r P N D F w0 R (fixC t true s) Q) (h2:¬ b=true -> RN r P N D F w0 R (fixC t false s) Q) (h:s.L.lookup t=some (.bool b):=by kernel_rfl):RN r P N D F w0 R s Q:=by
  by_cases hp:b=true
  · exact RN.fx t hp (h1 hp) h
  · exact RN.fx t (Bool.eq_false_iff.2 hp) (h2 hp) h
theorem RN.eB (b:Bool) (t:Nat) (h1:b=true -> RN r P N D F w0 R (fixC t false s) Q) (h2:¬ b=true -> RN r P N D F w0 R (fixC t true s) Q) (h:s.L.lookup t=some (.bool (!b)):=by kernel_rfl):RN r P N D F w0 R s Q:=by
  by_cases hp:b=true
  · exact RN.fx t (by simp [hp]) (h1 hp) h
  · exact RN.fx t (by simp [hp]) (h2 hp) h
theorem nt {b:Bool} (h:b=true):(!b)=false:=by rw [h];rfl
theorem nf {b:Bool} (h:b=false):(!b)=true:=by rw [h];rfl
theorem Fm.sub {a:Act} {L:FL}:∀ {Lx:FL},Fm N D L a -> Lx.map (λ p=>L.lookup p.1)=Lx.map (λ p=>some p.2) -> Fm N D Lx a
  | [],hF,_=>⟨hF.size,hF.defs,λ t v h=>by cases h⟩
  | p :: Lx,hF,h=>by
    simp only [List.map_cons,List.cons.injEq] at h
    have ih:=Fm.sub hF h.2
    refine ⟨hF.size,hF.defs,λ t v h'=>?_⟩
    rw [List.lookup_cons] at h'
    by_cases e:t=p.1
    · subst e;simp at h';subst h';exact hF.has _ _ h.1
    · have:(t == p.1)=false:=by simpa using e
      rw [this] at h';exact ih.has _ _ h'
theorem RN.ro {R':HL} (h:(∀ y ∈ R,y ∈ F) -> ∀ y ∈ R',y ∈ F) (hk:RN r P N D F w0 R' s Q):RN r P N D F w0 R s Q:=⟨λ hR=>hk.h (h hR)⟩
end
theorem putL_some {N:Nat} {dst:Option Tmp} {L:FL} (h:(putL N dst undef L).isSome=true) (v:Value):∃ L',putL N dst v L=some L':=by
  cases dst with
  | none=>exact ⟨L,rfl⟩
  | some t =>
    unfold putL at h ⊢
    simp only at h ⊢
    split at h
    · exact ⟨_,rfl⟩
    · cases h
def callR (P:Program) (n0 N:Nat) (R:HL) (s:Cfg):Option (Option Tmp × FuncId × Array Value × HL × List Nat × List Nat × List Prop):=match s.c with
  | .ops ops i=>callE P n0 N ops.toList i s.L s.A R []
  | _=>none
def callK (N:Nat) (s:Cfg) (x:Option (Option Tmp × FuncId × Array Value × HL × List Nat × List Nat × List Prop)):Option (FuncId × Array Value × List Prop × List Nat × HL):=match x with
  | some (dst,f,args,H,E,_,Ob)=>match (putL N dst undef s.L).isSome with
    | true=>some (f,args,Ob,E,H)
    | false=>none
  | none=>none
def putC (N:Nat) (v:Value) (s:Cfg):Cfg:=match s with
  | ⟨.ops ops i,k,L,A,Ts⟩=>match ops.toList[i]? with
    | some o=>match putL N o.dst v L with
      | some L'=>⟨.ops ops (i+1),k,L',A,Ts⟩
      | none=>⟨.ops ops i,k,L,A,Ts⟩
    | none=>⟨.ops ops i,k,L,A,Ts⟩
  | s=>s
theorem range_fM {α:Type} (l:List α):(List.range l.length).filterMap (l[·]?)=l:=by
  induction l with
  | nil=>rfl
  | cons x l ih =>
    rw [List.length_cons,List.range_succ_eq_map,List.filterMap_cons]
    simp only [List.getElem?_cons_zero,List.filterMap_map]
    congr 1
def oth (ip:List Nat) (n:Nat):List Nat:=(List.range n).filter λ i=>!(ip.contains i)
def setH (A:HL -> HL) (Ts:List HL -> List HL) (s:Cfg):Cfg:=match s with
  | ⟨c,k,L,A',Ts'⟩=>⟨c,k,L,A A',Ts Ts'⟩
section
variable {r:Option Nat} {P:Program} {N:Nat} {D:List Deferred} {F:HL} {w0:World} {R:HL} {s:Cfg} {Q:Exit -> Act -> World -> Prop}
theorem RN.call_gen {f:FuncId} {args:Array Value} {Hp Hr:HL} {Rv:Value -> HL -> Prop}
    (h:∀ n0,callK N s (callR P n0 N R s)=some (f,args,[],[],s.A)) (hp:(Hp++Hr).Perm (ap s.A s.Ts)) (hc:(∀ y ∈ R,y ∈ F) -> Sp P f args Hp (Hr++F) Rv)
    (hk:(∀ y ∈ R,y ∈ F) -> ∀ v H',Rv v H' -> ∀ a w,Fm N D (putC N v s).L a -> Rel ((H'++Hr)++F) w -> Below 0 w0 w -> Wf r P Q (putC N v s).c (putC N v s).k a w):RN r P N D F w0 R s Q:=by
  refine ⟨λ hR a w hF hRel hB=>?_⟩
  have h1:=h w.heap.size
  obtain ⟨c,k,L,A,Ts⟩:=s
  unfold callR at h1
  simp only at h1 hF hRel hp
  cases c with
  | code c=>simp [callK] at h1
  | ex e=>simp [callK] at h1
  | drw _ _=>simp [callK] at h1
  | ops ops i =>
    simp only at h1
    generalize hx:callE P w.heap.size N ops.toList i L A R []=x at h1
    unfold callK at h1
    split at h1
    case h_2=>cases h1
    rename_i dst f' args' H1 E E' Ob'
    split at h1
    case h_2=>cases h1
    rename_i hput
    simp only [Option.some.injEq,Prod.mk.injEq] at h1
    obtain ⟨e1,e2,e3,e4,e5⟩:=h1
    subst e1;subst e2;subst e3;subst e4;subst e5
    obtain ⟨o,s1,s',ho,hw,hok,hev,hd,hh,g1,g2,g3⟩:=callE_spec hx
    have hdrop:ops.toList.drop i=o :: ops.toList.drop (i+1):=by
      have hlt:i < ops.toList.length:=(List.getElem?_eq_some_iff.1 ho).1
      rw [List.drop_eq_getElem_cons hlt,(List.getElem?_eq_some_iff.1 ho).2]
    show wpListIn _ _ _ _ _ _ _ _
    rw [hdrop,wpListIn]
    obtain ⟨d1,d2,d3,d4⟩:=ev_keeps hev
    obtain ⟨a1,a2,a3,a4⟩:=wantL_keeps hw
    have hobs:∀ p ∈ s'.ob,p:=by rw [g3];intro p hp;cases hp
    have heqs:∀ p ∈ s'.eq,p.1=p.2:=by
      have:s'.eq=[]:=by simpa using g1
      rw [this];intro p hp;cases hp
    obtain ⟨c1,c2,c3⟩:=wantL_sound hw hF (λ p hp=>hobs p (d2 p hp))
    rw [ap_assoc] at hRel
    obtain ⟨w1,r1,r2,r3,r4,-⟩:=ev_sound (w:=w) (F:=Ts.flatten++F) hev heqs hobs (by rw [c2];exact hRel) (by rw [a3];exact λ y hy=>List.mem_append_right _ (hR y hy)) (λ _=>by rw [c3];rfl)
    rw [if_pos c1]
    refine ⟨λ _ _=>trivial,?_⟩
    rw [hF.sem hok,r1,Oper.uponIn_enter]
    refine ⟨λ h=>(by cases h),?_⟩
    rw [hh,<- ap_assoc] at r2
    have r2':Rel (Hp++(Hr++F)) w1:=by rw [<- List.append_assoc];exact r2.perm (hp.append_right F)
    refine Wr.calls ((hc hR w1 r2').mono ?_)
    rintro e w2 ⟨v,H',rfl,hv,hR2,hB2⟩
    have hh2:=hk hR v H' hv
    obtain ⟨L',hl⟩:=putL_some hput v
    have hpc:putC N v ⟨.ops ops i,k,L,H1,Ts⟩=⟨.ops ops (i+1),k,L',H1,Ts⟩:=by
      unfold putC
      simp only [ho,hd,hl]
    rw [hpc] at hh2
    rw [hd]
    exact hh2 _ w2 (hF.put hl) (by rw [List.append_assoc];exact hR2) (hB.trans (r3.trans hB2))
theorem putC_AT {N:Nat} {v:Value} {s:Cfg}:(putC N v s).A=s.A /\ (putC N v s).Ts=s.Ts:=by
  unfold putC
  split
  · split
    · split <;> exact ⟨rfl,rfl⟩
    · exact ⟨rfl,rfl⟩
  · exact ⟨rfl,rfl⟩
theorem RN.cp {f:FuncId} {args:Array Value} {v:Value} (hc:Sp P f args [] (ap s.A s.Ts++F) (λ u H'=>u=v /\ H'=[])) (hk:RN r P N D F w0 R (putC N v s) Q)
    (h:∀ n0,callK N s (callR P n0 N R s)=some (f,args,[],[],s.A):=by intro n0;kernel_rfl):RN r P N D F w0 R s Q:=by
  refine RN.call_gen (Hp:=[]) (Hr:=ap s.A s.Ts) h (List.Perm.refl _) (λ _=>hc) ?_
  rintro hR u H' ⟨rfl,rfl⟩ a w h1 h2 h3
  exact hk.h hR a w h1 (by rw [putC_AT.1,putC_AT.2];exact h2) h3
def othA (ip:List Nat) (s:Cfg):HL:=(oth ip s.A.length).filterMap (s.A[·]?)
def othT (jp:List Nat) (s:Cfg):List HL:=(oth jp s.Ts.length).filterMap (s.Ts[·]?)
def aftC (N:Nat) (ip jp:List Nat) (Hq:HL) (Tq:List HL) (v:Value) (s:Cfg):Cfg:=setH (λ A=>Hq++(oth ip A.length).filterMap (A[·]?)) (λ Ts=>Tq++(oth jp Ts.length).filterMap (Ts[·]?)) (putC N v s)
theorem setH_eq {A:HL -> HL} {Ts:List HL -> List HL} {s:Cfg}:(setH A Ts s).A=A s.A /\ (setH A Ts s).Ts=Ts s.Ts /\ (setH A Ts s).L=s.L /\ (setH A Ts s).c=s.c /\ (setH A Ts s).k=s.k:=⟨rfl,rfl,rfl,rfl,rfl⟩
def permOk (ip jp:List Nat) (s:Cfg):Bool:=(ip++oth ip s.A.length).isPerm (List.range s.A.length) && (jp++oth jp s.Ts.length).isPerm (List.range s.Ts.length)
def picks (ip jp:List Nat) (s:Cfg):HL × List HL:=(ip.filterMap (s.A[·]?),jp.filterMap (s.Ts[·]?))
theorem RN.ct {τ:Type} (ip jp:List Nat) {f:FuncId} {args:Array Value} {Hp:HL} {Tp:List HL} {Hq:τ -> HL} {Tq:τ -> List HL} {Rv:Value -> τ -> Prop}
    (hc:Sp P f args (ap Hp Tp) (ap (othA ip s) (othT jp s)++F) (λ v H'=>∃ x,H'=ap (Hq x) (Tq x) /\ Rv v x)) (hk:∀ v x,Rv v x -> RN r P N D F w0 R (aftC N ip jp (Hq x) (Tq x) v s) Q)
    (h:∀ n0,callK N s (callR P n0 N R s)=some (f,args,[],[],s.A):=by intro n0;kernel_rfl)
    (hp:permOk ip jp s=true:=by kernel_rfl) (hH:picks ip jp s=(Hp,Tp):=by kernel_rfl):RN r P N D F w0 R s Q:=by
  unfold permOk at hp
  unfold picks at hH
  rw [Bool.and_eq_true] at hp
  simp only [Prod.mk.injEq] at hH
  obtain ⟨e1,e2⟩:=hH
  refine RN.call_gen (Hp:=ap Hp Tp) (Hr:=ap (othA ip s) (othT jp s)) h ?_ (λ _=>hc) ?_
  · have h1:=ap_perm s.A s.Ts ip (oth ip s.A.length) jp (oth jp s.Ts.length) hp.1 hp.2
    rw [e1,e2] at h1
    exact h1
  · rintro hR v H' ⟨x,rfl,hv⟩ a w h1 h2 h3
    refine (hk v x hv).h hR a w h1 ?_ h3
    unfold aftC
    rw [setH_eq.1,setH_eq.2.1,putC_AT.1,putC_AT.2]
    refine h2.perm ?_
    rw [List.append_assoc (ap (Hq x) (Tq x))]
    exact (ap_swap _ _ _ _ _).symm
theorem Sp.run {f:FuncId} {fn:Func} {c:Code} {args:Array Value} {H:HL} {R':Value -> HL -> Prop} (hf:P.funcs[f]?=some fn) (hb:fn.body=some c) (hR:∀ y ∈ R,y ∈ F) {A:HL} {Ts:List HL} (hH:H=ap A Ts)
    (h:∀ w0,RN none P fn.ntmps [] F w0 R ⟨.code c,[],initL 0 args.toList,A,Ts⟩ (bodyPost P fn (SpR F w0 R'))) (ha:decide (args.size <= fn.ntmps)=true:=by kernel_rfl):Sp P f args H F R':=by
  subst hH
  exact Sp.of_body hf hb rfl ha _ rfl λ w0=>(h w0).h hR
theorem denK_ret {r:Option Nat} {P:Program} {a:Act} {w:World}:∀ (k:List KI) {Q:Exit -> Act -> World -> Prop},Q .ret a w -> denK r P k Q .ret a w
  | [],_,h=>h
  | .thn _ :: k,_,h=>denK_ret k h
  | .blk _ :: k,_,h=>denK_ret k h
  | .scp :: k,_,h=>denK_ret k h
  | .met _ :: k,_,h=>denK_ret k h
  | .rnd _ _ :: k,_,h=>denK_ret k h
def isDone (s:Cfg):Bool:=match s.c,s.k with
  | .code .ret,_=>true
  | .ex .normal,[]=>true
  | _,_=>false
theorem isDone_wf (h:isDone s=true) {a:Act} {w:World} (h1:Q .ret a w) (h2:Q .normal a w):Wf r P Q s.c s.k a w:=by
  obtain ⟨c,k,L,A,Ts⟩:=s
  unfold isDone at h
  split at h
  · rename_i h0
    simp only at h0
    subst h0
    exact wpIn_ret (denK_ret k h1)
  · rename_i h0 h3
    simp only at h0 h3
    subst h0;subst h3
    exact h2
  · cases h
def resX (x:Option (Value × List Nat × List Nat × List Prop)):List Nat:=match x with
  | some (_,E,_,_)=>E
  | none=>[]
def retV (P:Program) (n0:Nat) (rs:List ResultVar) (R:HL) (hints:List Hint) (s:Cfg):Option (Value × List Nat × List Nat × List Prop):=resE P n0 s.L rs (ap s.A s.Ts) R hints
theorem RN.retO {fn:Func} {R':Value -> HL -> Prop} (hints:List Hint) (Ob:List Prop) (hob:AllP Ob) (ip jp:List Nat) {v:Value} {H':HL} (hv:R' v H')
    (hc:isDone s=true:=by kernel_rfl) (h:∀ n0,retV P n0 fn.results.toList R hints s=some (v,resX (retV P n0 fn.results.toList R hints s),resX (retV P n0 fn.results.toList R hints s),Ob):=by intro n0;kernel_rfl)
    (hp:permOk ip jp s=true:=by kernel_rfl) (hH:ap (picks ip jp s).1 (picks ip jp s).2=H':=by kernel_rfl):RN r P N [] F w0 R s (bodyPost P fn (SpR F w0 R')):=by
  unfold permOk at hp
  unfold picks at hH
  refine ⟨λ hR a w hF hRel hB=>?_⟩
  rw [Bool.and_eq_true] at hp
  have h':=h w.heap.size
  unfold retV resE at h'
  split at h'
  case h_2=>cases h'
  rename_i vs ss hs
  split at h'
  case h_2=>cases h'
  simp only [resX,Option.some.injEq,Prod.mk.injEq] at h'
  obtain ⟨e1,-,e3,e4⟩:=h'
  have hrun:=resL_run (P:=P) hF hRel fn.results.toList _ _ _ hs rfl rfl hR (λ e=>by cases e) (pairs_eq rfl e3) (by rw [e4];exact AllP.mem hob)
  have hh:a.defers=[] /\ ∃ v' ,(results fn a.tmps).run P w=.ok v' w /\ SpR F w0 R' (.returned v') w:=by
    subst e1
    exact ⟨hF.defs,_,results_run (by simp) hrun,_,H',rfl,hv,hRel.takeT ip _ jp _ hp.1 hp.2 hH,hB⟩
  obtain ⟨q1,v',q2,q3⟩:=hh
  exact isDone_wf hc ⟨q1,v',q2,q3⟩ ⟨q1,v',q2,q3⟩
theorem RN.ret {fn:Func} {R':Value -> HL -> Prop} (hints:List Hint) (ip jp:List Nat) {v:Value} {H':HL} (hv:R' v H')
    (hc:isDone s=true:=by kernel_rfl) (h:∀ n0,retV P n0 fn.results.toList R hints s=some (v,resX (retV P n0 fn.results.toList R hints s),resX (retV P n0 fn.results.toList R hints s),[]):=by intro n0;kernel_rfl)
    (hp:permOk ip jp s=true:=by kernel_rfl) (hH:ap (picks ip jp s).1 (picks ip jp s).2=H':=by kernel_rfl):RN r P N [] F w0 R s (bodyPost P fn (SpR F w0 R')):=RN.retO hints [] trivial ip jp hv hc h hp hH
structure Inv where
  L:FL
  A:HL
  Ts:List HL
  I:Prop
  m:Nat
def loopC (K:Act -> World -> Prop) (V:Inv) (s:Cfg):Cfg:=match s with
  | ⟨.code (.loop c),k,_,_,_⟩=>⟨.code c,.met K :: k,V.L,V.A,V.Ts⟩
  | s=>s
def isLoop (s:Cfg):Bool:=match s.c with
  | .code (.loop _)=>true
  | _=>false
def MV {σ:Type} (N:Nat) (D:List Deferred) (F:HL) (w0:World) (V:σ -> Inv) (I:σ -> Prop):Act -> World -> Prop:=MET N D F w0 (λ x=>(V x).L) (λ x=>ap (V x).A (V x).Ts) I
def metK (s:Cfg):Option (Act -> World -> Prop):=match s.c,s.k with
  | .ex .normal,.met K :: _=>some K
  | _,_=>none
def fits (V:Inv) (ip jp:List Nat) (s:Cfg):List (Option Value) × HL × List HL:=(V.L.map λ p=>s.L.lookup p.1,ip.filterMap (s.A[·]?),jp.filterMap (s.Ts[·]?))
def fitsV (V:Inv):List (Option Value) × HL × List HL:=(V.L.map λ p=>some p.2,V.A,V.Ts)
theorem fits_rel {V:Inv} {ip jp:List Nat} {a:Act} {w:World} (h:fits V ip jp s=fitsV V) (hp:permOk ip jp s=true) (h1:Fm N D s.L a) (h2:Rel (ap s.A s.Ts++F) w):Fm N D V.L a /\ Rel (ap V.A V.Ts++F) w:=by
  unfold fits fitsV at h
  unfold permOk at hp
  rw [Bool.and_eq_true] at hp
  simp only [Prod.mk.injEq] at h
  exact ⟨h1.sub h.1,h2.takeT ip _ jp _ hp.1 hp.2 (by rw [h.2.1,h.2.2])⟩
theorem RN.meet {σ:Type} {V:σ -> Inv} {I:σ -> Prop} (x:σ) (ip jp:List Nat) (hi:I x) (hm:metK s=some (MV N D F w0 V I):=by kernel_rfl) (h:fits (V x) ip jp s=fitsV (V x):=by kernel_rfl) (hp:permOk ip jp s=true:=by kernel_rfl):RN r P N D F w0 R s Q:=by
  refine ⟨λ hR a w h1 h2 h3=>?_⟩
  obtain ⟨k1,k2⟩:=fits_rel h hp h1 h2
  obtain ⟨c,k,L,A,Ts⟩:=s
  unfold metK at hm
  split at hm
  case h_2=>cases hm
  rename_i K k' e1 e2
  simp only at e1 e2
  subst e1;subst e2
  simp only [Option.some.injEq] at hm
  subst hm
  exact ⟨x,hi,k1,k2,h3⟩
theorem TR.loop0 {σ:Type} {L:FL} {H:HL} (Lx:σ -> FL) (Hx:σ -> HL) (I:σ -> Prop) (μ:σ -> Nat) {c:Code} (round:∀ x,I x -> TR r P N D F w0 (Lx x) (Hx x) c (Exit.then (MET N D F w0 Lx Hx (λ x'=>I x' /\ μ x' < μ x)) Q)) (x0:σ) (hi:I x0):TR r P N D F w0 (Lx x0) (Hx x0) (.loop c) Q:=by
  intro a w h1 h2 h3
  have key:∀ n x,μ x <= n -> I x -> ∀ a w,Fm N D (Lx x) a -> Rel (Hx x++F) w -> Below 0 w0 w -> ∀ (b:Frame) (k:List Item) (cs:List Frame),
      b.roundOf=(Wr r).round -> (Wr r).fn b.fn -> (Wr r).room (cs.length+1+0) -> ∃ e a' w',Q e a' w' /\ ArrivesIn (Machine.fenced P (Wr r)) P (lone (b.atR a (.code c :: .inLoop c :: k)) cs w) b k cs e a' w':=by
    intro n
    induction n using Nat.strongRecOn with
    | _ n ih =>
      intro x hn hI a w k1 k2 k3 b k cs hro hb hr
      obtain ⟨e,a₁,w₁,hq,harr⟩:=round x hI a w k1 k2 k3 b (.inLoop c :: k) cs hro hb hr
      cases e with
      | normal =>
        obtain ⟨x',⟨hI',hlt⟩,m1,m2,m3⟩:=hq
        obtain ⟨e₂,a₂,w₂,hq₂,harr₂⟩:=ih (μ x') (by omega) x' (Nat.le_refl _) hI' a₁ w₁ m1 m2 m3 b k cs hro hb hr
        exact ⟨e₂,a₂,w₂,hq₂,.of_steps (StepsIn.trans harr (.one (fenced_calm hb hr rfl) stepR_inLoop)) harr₂⟩
      | exit id=>exact ⟨_,a₁,w₁,hq,.pass (x:=.inLoop c) rfl (λ _ _=>.inl (by simp)) harr⟩
      | goto l=>exact ⟨_,a₁,w₁,hq,.pass (x:=.inLoop c) rfl (λ _ _=>.inl (by simp)) harr⟩
      | ret=>exact ⟨_,a₁,w₁,hq,.pass (x:=.inLoop c) rfl (λ _ _=>.inl (by simp)) harr⟩
      | panic ch=>exact ⟨_,a₁,w₁,hq,.pass (x:=.inLoop c) rfl (λ _ _=>.inl (by simp)) harr⟩
      | outgrown=>exact ⟨_,a₁,w₁,hq,.pass (x:=.inLoop c) rfl (λ _ _=>.inl (by simp)) harr⟩
  intro b k cs hro hb hr
  obtain ⟨e,a',w',hq,harr⟩:=key _ x0 (Nat.le_refl _) hi a w h1 h2 h3 b k cs hro hb hr
  exact ⟨e,a',w',hq,.of_steps (.one (fenced_calm hb hr rfl) stepR_loop) harr⟩
theorem RN.loop {σ:Type} (V:σ -> Inv) (x0:σ) (ip jp:List Nat) (hi:(V x0).I)
    (round:∀ x,(V x).I -> (∀ {s':Cfg} {R':HL} (x':σ) (ip jp:List Nat),(V x').I /\ (V x').m < (V x).m -> (hm:metK s'=some (MV N D F w0 V (λ x'=>(V x').I /\ (V x').m < (V x).m)):=by kernel_rfl) -> (h:fits (V x') ip jp s'=fitsV (V x'):=by kernel_rfl) -> (hp:permOk ip jp s'=true:=by kernel_rfl) -> RN r P N D F w0 R' s' Q) ->
      RN r P N D F w0 R (loopC (MV N D F w0 V (λ x'=>(V x').I /\ (V x').m < (V x).m)) (V x) s) Q)
    (hc:isLoop s=true:=by kernel_rfl) (h:fits (V x0) ip jp s=fitsV (V x0):=by kernel_rfl) (hp:permOk ip jp s=true:=by kernel_rfl):RN r P N D F w0 R s Q:=by
  refine ⟨λ hR a w h1 h2 h3=>?_⟩
  obtain ⟨k1,k2⟩:=fits_rel h hp h1 h2
  obtain ⟨c,k,L,A,Ts⟩:=s
  unfold isLoop at hc
  split at hc
  case h_2=>cases hc
  rename_i c' e1
  simp only at e1
  subst e1
  exact TR.loop0 (L:=L) (H:=A) (λ x=>(V x).L) (λ x=>ap (V x).A (V x).Ts) (λ x=>(V x).I) (λ x=>(V x).m) (λ x hx=>(round x hx (λ x' ip jp hi hm h hp=>RN.meet x' ip jp hi hm h hp)).h hR) x0 hi a w k1 k2 h3
def rndC (n:Nat) (s:Cfg):Cfg:=match s with
  | ⟨.code (.loop c),k,L,A,Ts⟩=>⟨.code c,.rnd c n :: k,L,A,Ts⟩
  | s=>s
theorem rounds_of {c:Code} {n:Nat}:∀ a w,roundsR none P c Q n a w -> Code.rounds P c Q n a w:=by
  induction n with
  | zero=>exact λ _ _ h=>h
  | succ n ih =>
    intro a w h
    refine (wpIn_wide (n:=0)).1 (wpIn_mono h λ e a w q=>?_)
    cases e <;> first | exact ih a w q | exact q
theorem RN.rounds (n:Nat) (hk:RN none P N D F w0 R (rndC n s) Q) (hc:isLoop s=true:=by kernel_rfl):RN none P N D F w0 R s Q:=by
  refine ⟨λ hR a w h1 h2 h3=>?_⟩
  obtain ⟨c,k,L,A,Ts⟩:=s
  unfold isLoop at hc
  split at hc
  case h_2=>cases hc
  rename_i c' e1
  simp only at e1
  subst e1
  exact (wpIn_wide (n:=0)).2 (wp_loop_rounds (n+1) (rounds_of (n:=n+1) a w (hk.h hR a w h1 h2 h3)))
end
end Go.Proofs.YtkhifpbokgabbaaGreatDoor
