import Derived.Test.YtkhifpbokgabbaaGreatDoorW01
import Derived.TacticsIn
import Derived.RangeFuncIn
set_option maxHeartbeats 4000000
set_option maxRecDepth 100000
set_option linter.unusedSimpArgs false
set_option linter.unusedVariables false
namespace Go.Proofs.YtkhifpbokgabbaaGreatDoor
open Go.RowKit
def wantL (ops:List Oper) (o:Oper) (L:FL) (s:SS):Option (Bool × SS):=match o.guard with
  | none=>some (true,s)
  | some (j,want)=>match (ops[j]?).bind (·.dst) with
    | some d=>match L.lookup d with
      | some (.bool b)=>match s.hints with
        | .gd c :: hs=>some (c == want,{ s with hints:=hs,ob:=(b=c) :: s.ob })
        | .gen :: hs=>some (b == want,{ s with hints:=hs })
        | _=>some (b == want,s)
      | some (.tuple _)=>some (false,s)
      | _=>none
    | none=>none
theorem wantL_sound {N:Nat} {D:List Deferred} {ops:Array Oper} {o:Oper} {L:FL} {s s':SS} {b:Bool} {a:Act} (h:wantL ops.toList o L s=some (b,s')) (hF:Fm N D L a) (hob:∀ p ∈ s'.ob,p) :
    Region.wanted o (yielded ops a.tmps)=b /\ s'.h=s.h /\ s'.cnt=s.cnt:=by
  unfold wantL at h
  unfold Region.wanted
  split at h
  · rename_i hg
    cases h
    rw [hg];exact ⟨rfl,rfl,rfl⟩
  · rename_i j want hg
    rw [hg]
    simp only
    split at h
    case h_2=>cases h
    rename_i d hd
    have hd':(ops[j]?).bind (·.dst)=some d:=by simpa using hd
    split at h
    · rename_i x hx
      have hy:yielded ops a.tmps j=some x:=by unfold yielded;rw [hd'];simp [hF.has _ _ hx]
      split at h
      · cases h
        have:=hob _ (List.mem_cons_self)
        subst this
        rw [hy];exact ⟨by simp,rfl,rfl⟩
      · cases h
        rw [hy];exact ⟨by simp,rfl,rfl⟩
      · cases h
        rw [hy];exact ⟨by simp,rfl,rfl⟩
    · rename_i x hx
      cases h
      have hy:yielded ops a.tmps j=none:=by unfold yielded;rw [hd'];simp [hF.has _ _ hx]
      rw [hy];exact ⟨rfl,rfl,rfl⟩
    · cases h
theorem wantL_keeps {ops:List Oper} {o:Oper} {L:FL} {s s':SS} {b:Bool} (h:wantL ops o L s=some (b,s')):(∀ p ∈ s.eq,p ∈ s'.eq) /\ (∀ p ∈ s.ob,p ∈ s'.ob) /\ s'.r=s.r /\ s'.wr=s.wr:=by
  unfold wantL at h
  repeat' split at h
  all_goals first
    | (cases h;done)
    | (cases h;exact ⟨λ _ h=>h,λ _ h=>h,rfl,rfl⟩)
    | (cases h;exact ⟨λ _ h=>h,λ _ h=>List.mem_cons_of_mem _ h,rfl,rfl⟩)
def seg (P:Program) (n0 N:Nat) (ops:List Oper):List Oper -> FL -> SS -> Option (FL × SS)
  | [],L,s=>some (L,s)
  | o :: rest,L,s=>match wantL ops o L s with
    | none=>none
    | some (false,s)=>match putL N o.dst undef L with
      | some L=>seg P n0 N ops rest L s
      | none=>none
    | some (true,s)=>match okOps o.op L with
      | false=>none
      | true=>match ev P n0 o (rho L) s with
        | some (.value v,s)=>match putL N o.dst v L with
          | some L=>seg P n0 N ops rest L s
          | none=>none
        | some (.skip,s)=>match putL N o.dst undef L with
          | some L=>seg P n0 N ops rest L s
          | none=>none
        | _=>none
theorem seg_keeps {P:Program} {n0 N:Nat} {ops:List Oper}:∀ (l:List Oper) (L L':FL) (s s':SS),seg P n0 N ops l L s=some (L',s') -> (∀ p ∈ s.eq,p ∈ s'.eq) /\ (∀ p ∈ s.ob,p ∈ s'.ob) /\ s'.r=s.r
  | [],L,L',s,s',h=>by rw [seg] at h;cases h;exact ⟨λ _ h=>h,λ _ h=>h,rfl⟩
  | o :: rest,L,L',s,s',h=>by
    rw [seg] at h
    split at h
    · cases h
    · rename_i s1 hw
      split at h
      case h_2=>cases h
      obtain ⟨a1,a2,a3,a4⟩:=wantL_keeps hw
      obtain ⟨b1,b2,b3⟩:=seg_keeps rest _ _ _ _ h
      exact ⟨λ p hp=>b1 p (a1 p hp),λ p hp=>b2 p (a2 p hp),b3.trans a3⟩
    · rename_i s1 hw
      split at h
      · cases h
      obtain ⟨a1,a2,a3,a4⟩:=wantL_keeps hw
      split at h
      · rename_i v s2 he
        split at h
        case h_2=>cases h
        obtain ⟨c1,c2,c3,c4⟩:=ev_keeps he
        obtain ⟨b1,b2,b3⟩:=seg_keeps rest _ _ _ _ h
        exact ⟨λ p hp=>b1 p (c1 p (a1 p hp)),λ p hp=>b2 p (c2 p (a2 p hp)),b3.trans (c3.trans a3)⟩
      · rename_i s2 he
        split at h
        case h_2=>cases h
        obtain ⟨c1,c2,c3,c4⟩:=ev_keeps he
        obtain ⟨b1,b2,b3⟩:=seg_keeps rest _ _ _ _ h
        exact ⟨λ p hp=>b1 p (c1 p (a1 p hp)),λ p hp=>b2 p (c2 p (a2 p hp)),b3.trans (c3.trans a3)⟩
      · cases h
def Wr (r:Option Nat):Fence:={ fn:=λ _=>True,depth:=none,alive:=false,round:=r }
theorem Wr.calls {r:Option Nat} {n:Nat} {P:Program} {f:FuncId} {args:Array Value} {w:World} {R:Ending -> World -> Prop} (h:Calls P f args w R):CallsIn (Wr r) n P f args w R:=(callsIn_wide (n:=n)).2 h
theorem okOps_plain {o:Op} {L:FL} (h:okOps o L=true):∀ c,o ≠ .defer c:=by
  rintro c rfl
  simp [okOps,opsOf] at h
theorem Fm.sem {r:Option Nat} {N:Nat} {D:List Deferred} {L:FL} {a:Act} (h:Fm N D L a) {o:Oper} (ho:okOps o.op L=true):o.semAt (Wr r).round a.eval=execOp (rho L) o:=by
  rw [Oper.semAt_eq _ _ _ (okOps_plain ho),h.exec ho]
def AllP:List Prop -> Prop
  | []=>True
  | p :: l=>p /\ AllP l
theorem AllP.mem:∀ {l:List Prop},AllP l -> ∀ p ∈ l,p
  | _ :: _,h,p,hp=>by
    rcases List.mem_cons.1 hp with rfl | hp
    · exact h.1
    · exact AllP.mem h.2 p hp
def TR (r:Option Nat) (P:Program) (N:Nat) (D:List Deferred) (F:HL) (w0:World) (L:FL) (H:HL) (c:Code) (Q:Exit -> Act -> World -> Prop):Prop :=
  ∀ a w,Fm N D L a -> Rel (H++F) w -> Below 0 w0 w -> c.wpIn (Wr r) 0 P Q a w
def EX (N:Nat) (D:List Deferred) (F:HL) (w0:World) (L:FL) (H:HL) (Q:Exit -> Act -> World -> Prop) (e:Exit):Prop :=
  ∀ a w,Fm N D L a -> Rel (H++F) w -> Below 0 w0 w -> Q e a w
theorem pairs_eq:∀ {l:List (Nat × Nat)} {E:List Nat},l.map (·.1)=E -> l.map (·.2)=E -> ∀ p ∈ l,p.1=p.2
  | [],_,_,_,p,hp=>by cases hp
  | q :: l,E,h1,h2,p,hp=>by
    subst h1
    simp only [List.map_cons,List.cons.injEq] at h2
    rcases List.mem_cons.1 hp with rfl | hp
    · exact h2.1.symm
    · exact pairs_eq rfl h2.2 p hp
section
variable {r:Option Nat} {P:Program} {N:Nat} {D:List Deferred} {F:HL} {w0:World} {ops:Array Oper} {i:Nat} {L:FL} {H:HL} {Q:Exit -> Act -> World -> Prop}
def Sp (P:Program) (f:FuncId) (args:Array Value) (H F:HL) (R:Value -> HL -> Prop):Prop :=
  ∀ w,Rel (H++F) w -> Calls P f args w λ e w'=>∃ v H',e=.returned v /\ R v H' /\ Rel (H'++F) w' /\ Below 0 w w'
theorem Sp.mono {f:FuncId} {args:Array Value} {R R':Value -> HL -> Prop} (h:Sp P f args H F R) (hr:∀ v H',R v H' -> R' v H'):Sp P f args H F R' :=
  λ w hR=>(h w hR).mono λ e w' ⟨v,H',h1,h2,h3,h4⟩=>⟨v,H',h1,hr _ _ h2,h3,h4⟩
end
def callE (P:Program) (n0 N:Nat) (ops:List Oper) (i:Nat) (L:FL) (H R:HL) (hints:List Hint):Option (Option Tmp × FuncId × Array Value × HL × List Nat × List Nat × List Prop) :=
  match ops[i]? with
  | none=>none
  | some o=>match wantL ops o L ⟨H,R,hints,0,[],[],true⟩ with
    | some (true,s)=>match okOps o.op L with
      | true=>match ev P n0 o (rho L) s with
        | some (.enter f args,s')=>match s'.hints with
          | []=>some (o.dst,f,args,s'.h,s'.eq.map (·.1),s'.eq.map (·.2),s'.ob)
          | _=>none
        | _=>none
      | false=>none
    | _=>none
section
variable {r:Option Nat} {P:Program} {N:Nat} {D:List Deferred} {F:HL} {w0:World} {ops:Array Oper} {i:Nat} {L:FL} {H:HL} {Q:Exit -> Act -> World -> Prop}
theorem callE_spec {n0:Nat} {R:HL} {hints:List Hint} {dst:Option Tmp} {f:FuncId} {args:Array Value} {H1:HL} {E E':List Nat} {Ob:List Prop} {l:List Oper}
    (h:callE P n0 N l i L H R hints=some (dst,f,args,H1,E,E',Ob)) :
    ∃ o s s',l[i]?=some o /\ wantL l o L ⟨H,R,hints,0,[],[],true⟩=some (true,s) /\ okOps o.op L=true /\ ev P n0 o (rho L) s=some (.enter f args,s') /\ o.dst=dst /\ s'.h=H1 /\ s'.eq.map (·.1)=E /\ s'.eq.map (·.2)=E' /\ s'.ob=Ob:=by
  unfold callE at h
  split at h
  · cases h
  · rename_i o ho
    split at h
    case h_2=>cases h
    rename_i s hs
    split at h
    case h_2=>cases h
    rename_i hok
    split at h
    case h_2=>cases h
    rename_i f' args' s' he
    split at h
    case h_2=>cases h
    simp only [Option.some.injEq,Prod.mk.injEq] at h
    obtain ⟨e1,e2,e3,e4,e5,e6,e7⟩:=h
    subst e2;subst e3
    exact ⟨o,s,s',ho,hs,hok,he,e1,e4,e5,e6,e7⟩
theorem TR.exit {id:Nat} (h:EX N D F w0 L H Q (.exit id)):TR r P N D F w0 L H (.exit id) Q:=λ a w h1 h2 h3=>wpIn_exit (h a w h1 h2 h3)
theorem TR.retx (h:EX N D F w0 L H Q .ret):TR r P N D F w0 L H .ret Q:=λ a w h1 h2 h3=>wpIn_ret (h a w h1 h2 h3)
abbrev ap (A:HL) (Ts:List HL):HL:=A++Ts.flatten
theorem pick_perm {α:Type} (l:List α) (ip ir:List Nat) (hp:(ip++ir).isPerm (List.range l.length)=true):(ip.filterMap (l[·]?)++ir.filterMap (l[·]?)).Perm l:=by
  have h1:=(List.isPerm_iff.1 hp).filterMap (l[·]?)
  have h2:(List.range l.length).filterMap (l[·]?)=l:=by
    clear hp h1
    induction l with
    | nil=>rfl
    | cons x l ih =>
      rw [List.length_cons,List.range_succ_eq_map,List.filterMap_cons]
      simp only [List.getElem?_cons_zero,List.filterMap_map]
      congr 1
  rw [h2,List.filterMap_append] at h1
  exact h1
theorem ap_perm (A:HL) (Ts:List HL) (ip ir jp jr:List Nat) (hp:(ip++ir).isPerm (List.range A.length)=true) (hj:(jp++jr).isPerm (List.range Ts.length)=true) :
    (ap (ip.filterMap (A[·]?)) (jp.filterMap (Ts[·]?))++ap (ir.filterMap (A[·]?)) (jr.filterMap (Ts[·]?))).Perm (ap A Ts):=by
  have h1:=pick_perm A ip ir hp
  have h2:=(pick_perm Ts jp jr hj).flatten
  rw [List.flatten_append] at h2
  refine List.Perm.trans ?_ (List.Perm.append h1 h2)
  rw [List.append_assoc,List.append_assoc]
  refine List.Perm.append_left _ ?_
  rw [<- List.append_assoc,<- List.append_assoc]
  exact List.Perm.append_right _ List.perm_append_comm
theorem ap_swap (A B:HL) (As Bs:List HL) (C:HL):(ap A As++(ap B Bs++C)).Perm (ap (A++B) (As++Bs)++C):=by
  rw [<- List.append_assoc]
  refine List.Perm.append_right C ?_
  show (A++As.flatten++(B++Bs.flatten)).Perm (A++B++(As++Bs).flatten)
  rw [List.flatten_append,List.append_assoc,List.append_assoc]
  refine List.Perm.append_left _ ?_
  rw [<- List.append_assoc,<- List.append_assoc]
  exact List.Perm.append_right _ List.perm_append_comm
theorem Rel.takeT {A F H':HL} {Ts:List HL} {w:World} (ip ir jp jr:List Nat) (hp:(ip++ir).isPerm (List.range A.length)=true) (hj:(jp++jr).isPerm (List.range Ts.length)=true) (e:ap (ip.filterMap (A[·]?)) (jp.filterMap (Ts[·]?))=H') (h:Rel (ap A Ts++F) w):Rel (H'++F) w:=by
  have h1:=h.perm ((ap_perm A Ts ip ir jp jr hp hj).append_right F)
  rw [List.append_assoc,e] at h1
  exact h1.sub ((List.Sublist.refl _).append (List.sublist_append_right _ _))
theorem stepR_scope {P:Program} {b:Frame} {a:Act} {c:Code} {k:List Item} {cs:List Frame} {w:World} :
    step P (lone (b.atR a (.code (.scope c) :: k)) cs w)=.next (lone (b.atR a (.code c :: .inScope c :: k)) cs w) :=
  step_lone_go (by simp [stepG,stepG.exec,Frame.atR])
theorem stepR_inScope {P:Program} {b:Frame} {a:Act} {c:Code} {k:List Item} {cs:List Frame} {w:World} :
    step P (lone (b.atR a (.inScope c :: k)) cs w)=.next (lone (b.atR a k) cs w) :=
  step_lone_go (by simp [stepG,stepG.exec,Frame.atR])
theorem wpIn_scope_straight {Fe:Fence} {n:Nat} {P:Program} {c:Code} {Q:Exit -> Act -> World -> Prop} {a:Act} {w:World} (h:c.wpIn Fe n P (Exit.noGoto Q) a w):(Code.scope c).wpIn Fe n P Q a w:=by
  intro b k cs hro hb hr
  have h0:(lone (b.atR a (.code (.scope c) :: k)) cs w).fenced P Fe:=fenced_calm hb hr rfl
  obtain ⟨e,a₁,w₁,hq,harr⟩:=h b (.inScope c :: k) cs hro hb hr
  cases e with
  | normal=>exact ⟨.normal,a₁,w₁,hq,.head h0 stepR_scope (StepsIn.trans harr (.one (fenced_calm hb hr rfl) stepR_inScope))⟩
  | exit id=>exact ⟨.exit id,a₁,w₁,hq,λ k' hk=>.head h0 stepR_scope (harr.1 k' (by simp [exitTo,hk])),λ hro' hk=>let ⟨k₁,h1,h2⟩:=harr.2 hro' (by simpa [exitTo] using hk);⟨k₁,h1,.head h0 stepR_scope h2⟩⟩
  | goto l=>exact hq.elim
  | ret=>exact ⟨_,a₁,w₁,hq,.of_steps (.one h0 stepR_scope) harr⟩
  | panic ch=>exact ⟨_,a₁,w₁,hq,.of_steps (.one h0 stepR_scope) harr⟩
  | outgrown=>exact ⟨_,a₁,w₁,hq,.of_steps (.one h0 stepR_scope) harr⟩
abbrev vI (n:Int):Value:=.int .i64 n
abbrev vP (b o:Nat):Value:=.pointer (some ⟨b,o,none⟩)
abbrev vS (b o n c:Nat):Value:=.slice (some ⟨b,o,none⟩) n c
def zrow (l:List Value):Nat -> Nat -> Value:=λ _ k=>(⟨l⟩:Array Value).getD k default
theorem ac {p:Prop} {l:List Prop} (h:p) (k:AllP l):AllP (p :: l):=⟨h,k⟩
theorem an:AllP []:=trivial
theorem mc {F R:HL} {x:Nat × Blk} (h:x ∈ F) (k:∀ y ∈ R,y ∈ F):∀ y ∈ x :: R,y ∈ F:=λ y hy=>by
  rcases List.mem_cons.1 hy with rfl | hy
  · exact h
  · exact k y hy
theorem mn {F:HL}:∀ y ∈ ([]:HL),y ∈ F:=λ y hy=>by cases hy
def MET {σ:Type} (N:Nat) (D:List Deferred) (F:HL) (w0:World) (Lx:σ -> FL) (Hx:σ -> HL) (I:σ -> Prop) (a:Act) (w:World):Prop :=
  ∃ x,I x /\ Fm N D (Lx x) a /\ Rel (Hx x++F) w /\ Below 0 w0 w
theorem TR.loop {σ:Type} (Lx:σ -> FL) (Hx:σ -> HL) (I:σ -> Prop) (μ:σ -> Nat) {c:Code} (x0:σ) (hi:I x0) (keys:List Nat) (hL:pickL keys L=some (Lx x0)) {A:HL} {Ts:List HL} (ip ir jp jr:List Nat) (hp:(ip++ir).isPerm (List.range A.length)=true) (hj:(jp++jr).isPerm (List.range Ts.length)=true) (hH:ap (ip.filterMap (A[·]?)) (jp.filterMap (Ts[·]?))=Hx x0)
    (round:∀ x,I x -> TR r P N D F w0 (Lx x) (Hx x) c (Exit.then (MET N D F w0 Lx Hx (λ x'=>I x' /\ μ x' < μ x)) Q)):TR r P N D F w0 L (ap A Ts) (.loop c) Q:=by
  intro a w h1 h2 h3
  replace h2:=h2.takeT ip ir jp jr hp hj hH
  have key:∀ n x,μ x <= n -> I x -> ∀ a w,Fm N D (Lx x) a -> Rel (Hx x++F) w -> Below 0 w0 w -> ∀ (b:Frame) (k:List Item) (cs:List Frame),
      b.roundOf=(Wr r).round -> (Wr r).fn b.fn -> (Wr r).room (cs.length+1+0) -> ∃ e a' w',Q e a' w' /\ ArrivesIn (Machine.fenced P (Wr r)) P (lone (b.atR a (.code c :: .inLoop c :: k)) cs w) b k cs e a' w':=by
    intro n
    induction n using Nat.strongRecOn with
    | _ n ih =>
      intro x hn hI a w k1 k2 k3 b k cs hro hb hr
      obtain ⟨e,a₁,w₁,hq,harr⟩:=round x hI a w k1 k2 k3 b (.inLoop c :: k) cs hro hb hr
      cases e with
      | normal =>
        obtain ⟨x',⟨hI',hlt⟩,m1,m2,m3⟩:=hq
        obtain ⟨e₂,a₂,w₂,hq₂,harr₂⟩:=ih (μ x') (by omega) x' (Nat.le_refl _) hI' a₁ w₁ m1 m2 m3 b k cs hro hb hr
        exact ⟨e₂,a₂,w₂,hq₂,.of_steps (StepsIn.trans harr (.one (fenced_calm hb hr rfl) stepR_inLoop)) harr₂⟩
      | exit id=>exact ⟨_,a₁,w₁,hq,.pass (x:=.inLoop c) rfl (λ _ _=>.inl (by simp)) harr⟩
      | goto l=>exact ⟨_,a₁,w₁,hq,.pass (x:=.inLoop c) rfl (λ _ _=>.inl (by simp)) harr⟩
      | ret=>exact ⟨_,a₁,w₁,hq,.pass (x:=.inLoop c) rfl (λ _ _=>.inl (by simp)) harr⟩
      | panic ch=>exact ⟨_,a₁,w₁,hq,.pass (x:=.inLoop c) rfl (λ _ _=>.inl (by simp)) harr⟩
      | outgrown=>exact ⟨_,a₁,w₁,hq,.pass (x:=.inLoop c) rfl (λ _ _=>.inl (by simp)) harr⟩
  intro b k cs hro hb hr
  obtain ⟨e,a',w',hq,harr⟩:=key _ x0 (Nat.le_refl _) hi a w (h1.pick hL) h2 h3 b k cs hro hb hr
  exact ⟨e,a',w',hq,.of_steps (.one (fenced_calm hb hr rfl) stepR_loop) harr⟩
def SpR (F:HL) (w0:World) (R:Value -> HL -> Prop) (e:Ending) (w':World):Prop:=∃ v H',e=.returned v /\ R v H' /\ Rel (H'++F) w' /\ Below 0 w0 w'
def initL:Nat -> List Value -> FL
  | _,[]=>[]
  | n,v :: l=>(n,v) :: initL (n+1) l
theorem initL_lookup:∀ (n:Nat) (l:List Value) (t:Nat) (v:Value),(initL n l).lookup t=some v -> n <= t /\ l[t - n]?=some v
  | _,[],_,_,h=>by cases h
  | n,u :: l,t,v,h=>by
    rw [initL,List.lookup_cons] at h
    by_cases e:t=n
    · subst e;simp at h;subst h;simp
    · have:(t == n)=false:=by simpa using e
      rw [this] at h
      obtain ⟨h1,h2⟩:=initL_lookup (n+1) l t v h
      refine ⟨by omega,?_⟩
      have:t - n=(t - (n+1))+1:=by omega
      rw [this];simpa using h2
theorem Sp.of_body {f:FuncId} {fn:Func} {c:Code} {args:Array Value} {R:Value -> HL -> Prop} (hf:P.funcs[f]?=some fn) (hb:fn.body=some c) (hn:fn.ntmps=N) (ha:decide (args.size <= N)=true)
    (L:FL) (hL:initL 0 args.toList=L) (h:∀ w0,TR none P N [] F w0 L H c (bodyPost P fn (SpR F w0 R))):Sp P f args H F R:=by
  intro w hR
  refine calls_of_wp hf hb ((wpIn_wide (n:=0)).1 ?_)
  have ha':args.size <= N:=of_decide_eq_true ha
  refine h w _ w ⟨?_,rfl,?_⟩ hR (Below.refl _ _)
  · simp [hn];omega
  · subst hL
    intro t v ht
    obtain ⟨_,h2⟩:=initL_lookup 0 _ t v ht
    have h3:args[t]?=some v:=by simpa using h2
    have hlt:t < args.size:=(Array.getElem?_eq_some_iff.1 h3).1
    simp only
    rw [Array.getElem?_append_left hlt]
    exact h3
def resL (P:Program) (n0:Nat) (L:FL):List ResultVar -> SS -> Option (List Value × SS)
  | [],s=>some ([],s)
  | .tmp t :: l,s=>match L.lookup t with
    | some v=>match resL P n0 L l s with
      | some (vs,s)=>some (v :: vs,s)
      | none=>none
    | none=>none
  | .cell t ty :: l,s=>match L.lookup t with
    | some (.pointer (some a))=>match arun P n0 (loadVar ty a) s with
      | some (v,s)=>match resL P n0 L l s with
        | some (vs,s)=>some (v :: vs,s)
        | none=>none
      | none=>none
    | _=>none
def tup:List Value -> Value
  | [v]=>v
  | vs=>.tuple ⟨vs⟩
def resE (P:Program) (n0:Nat) (L:FL) (rs:List ResultVar) (H R:HL) (hints:List Hint):Option (Value × List Nat × List Nat × List Prop) :=
  match resL P n0 L rs ⟨H,R,hints,0,[],[],false⟩ with
  | some (vs,s)=>match s.hints with
    | []=>some (tup vs,s.eq.map (·.1),s.eq.map (·.2),s.ob)
    | _=>none
  | none=>none
theorem resL_keeps {n0:Nat}:∀ (rs:List ResultVar) (s s':SS) (vs:List Value),resL P n0 L rs s=some (vs,s') -> (∀ p ∈ s.eq,p ∈ s'.eq) /\ (∀ p ∈ s.ob,p ∈ s'.ob)
  | [],s,s',vs,h=>by rw [resL] at h;cases h;exact ⟨λ _ h=>h,λ _ h=>h⟩
  | .tmp t :: l,s,s',vs,h=>by
    rw [resL] at h
    split at h
    · split at h
      · rename_i hr
        cases h
        exact resL_keeps l _ _ _ hr
      · cases h
    · cases h
  | .cell t ty :: l,s,s',vs,h=>by
    rw [resL] at h
    split at h
    · split at h
      · rename_i ha
        split at h
        · rename_i hr
          cases h
          obtain ⟨a1,a2,_⟩:=arun_keeps _ _ _ _ ha
          obtain ⟨b1,b2⟩:=resL_keeps l _ _ _ hr
          exact ⟨λ p hp=>b1 p (a1 p hp),λ p hp=>b2 p (a2 p hp)⟩
        · cases h
      · cases h
    · cases h
def resG (tmps:Array Value):ResultVar -> Sem Value
  | .tmp t=>pure (tmps.getD t undef)
  | .cell a t=>do loadVar t (<- asAddr (tmps.getD a undef))
theorem resL_run {n0:Nat} {a:Act} {w:World} (hF:Fm N D L a) (hR:Rel (H++F) w):∀ (rs:List ResultVar) (s s':SS) (vs:List Value),resL P n0 L rs s=some (vs,s') -> s.wr=false -> s.h=H -> (∀ y ∈ s.r,y ∈ F) -> (s.wr=true -> n0+s.cnt=w.heap.size) ->
    (∀ p ∈ s'.eq,p.1=p.2) -> (∀ p ∈ s'.ob,p) -> (rs.mapM (resG a.tmps)).run P w=.ok vs w
  | [],s,s',vs,h,_,_,_,_,_,_=>by rw [resL] at h;cases h;rfl
  | .tmp t :: l,s,s',vs,h,hw,hh,hr,hn,heq,hob=>by
    rw [resL] at h
    split at h
    · rename_i v hv
      split at h
      · rename_i vs' s1 hr1
        cases h
        have ih:=resL_run hF hR l _ _ _ hr1 hw hh hr hn heq hob
        rw [List.mapM_cons,Sem.run_bind]
        simp [resG,hF.has _ _ hv,Sem.run_bind,ih]
      · cases h
    · cases h
  | .cell t ty :: l,s,s',vs,h,hw,hh,hr,hn,heq,hob=>by
    rw [resL] at h
    split at h
    · rename_i ad hv
      split at h
      · rename_i v s1 ha
        split at h
        · rename_i vs' s2 hr1
          cases h
          obtain ⟨a1,a2,a3,a4⟩:=arun_keeps _ _ _ _ ha
          obtain ⟨b1,b2⟩:=resL_keeps l _ _ _ hr1
          obtain ⟨w1,e1,e2,e3,e4,e5⟩:=arun_sound (F:=F) _ _ _ _ w ha (λ p hp=>heq p (b1 p hp)) (λ p hp=>hob p (b2 p hp)) (by rw [hh];exact hR) hr hn
          obtain rfl:=e5 hw
          have hh1:s1.h=H:=by rw [arun_ro _ _ _ _ ha hw];exact hh
          have ih:=resL_run hF hR l _ _ _ hr1 (a4.trans hw) hh1 (by rw [a3];exact hr) (λ e=>e4 (a4.symm.trans e)) heq hob
          rw [List.mapM_cons,Sem.run_bind]
          simp [resG,hF.has _ _ hv,Sem.run_bind,asAddr,e1,ih]
        · cases h
      · cases h
    · cases h
theorem results_run {fn:Func} {rs:List ResultVar} (hrs:fn.results=⟨rs⟩) {tmps:Array Value} {w:World} {vs:List Value} (h:(rs.mapM (resG tmps)).run P w=.ok vs w):(results fn tmps).run P w=.ok (tup vs) w:=by
  have h1:(results fn tmps)=(do let vs <- (⟨rs⟩:Array ResultVar).mapM (resG tmps);pure (if h:vs.size=1 then vs[0] else .tuple vs)):=by
    unfold results
    rw [hrs]
    congr 1
  rw [h1]
  have h2:(⟨rs⟩:Array ResultVar).mapM (resG tmps)=List.toArray <$> rs.mapM (resG tmps):=by simp
  rw [h2]
  have h3:((List.toArray <$> rs.mapM (resG tmps)):Sem (Array Value)).run P w=.ok ⟨vs⟩ w:=by
    rw [map_eq_pure_bind,Sem.run_bind,h];rfl
  rw [Sem.run_bind,h3]
  match vs with
  | []=>rfl
  | [v]=>rfl
  | v :: u :: l=>simp [tup]
theorem TR.ret {fn:Func} {R:Value -> HL -> Prop} (hQ:∀ a w,bodyPost P fn (SpR F w0 R) .ret a w -> Q .ret a w) {rs:List ResultVar} (hrs:fn.results=⟨rs⟩) (hD:D=[]) (Ro:HL) (hints:List Hint) (v:Value) (E:List Nat) (Ob:List Prop)
    {A:HL} {Ts:List HL} (h:∀ n0,resE P n0 L rs (ap A Ts) Ro hints=some (v,E,E,Ob)) (hRo:∀ y ∈ Ro,y ∈ F) (hob:AllP Ob) (ip ir jp jr:List Nat) (H':HL) (hp:(ip++ir).isPerm (List.range A.length)=true) (hj:(jp++jr).isPerm (List.range Ts.length)=true) (hH:ap (ip.filterMap (A[·]?)) (jp.filterMap (Ts[·]?))=H') (hv:R v H'):TR r P N D F w0 L (ap A Ts) .ret Q:=by
  refine TR.retx ?_
  intro a w hF hR hB
  refine hQ a w ?_
  have h':=h w.heap.size
  unfold resE at h'
  split at h'
  case h_2=>cases h'
  rename_i vs s hs
  split at h'
  case h_2=>cases h'
  simp only [Option.some.injEq,Prod.mk.injEq] at h'
  obtain ⟨e1,e2,e3,e4⟩:=h'
  have hrun:=resL_run (P:=P) hF hR rs _ _ _ hs rfl rfl hRo (λ e=>by cases e) (pairs_eq e2 e3) (by rw [e4];exact AllP.mem hob)
  subst e1
  exact ⟨hF.defs.trans hD,_,results_run hrs hrun,_,H',rfl,hv,hR.takeT ip ir jp jr hp hj hH,hB⟩
theorem Sp.of_calls {f:FuncId} {args:Array Value} {v:Value} (h:∀ w,Calls P f args w λ e w'=>e=.returned v /\ w'=w) (F:HL):Sp P f args [] F (λ u H'=>u=v /\ H'=[]):=λ w hR =>
  (h w).mono λ e w' ⟨h1,h2⟩=>⟨v,[],h1,⟨rfl,rfl⟩,by rw [h2];exact hR,by rw [h2];exact Below.refl _ _⟩
end
end Go.Proofs.YtkhifpbokgabbaaGreatDoor
