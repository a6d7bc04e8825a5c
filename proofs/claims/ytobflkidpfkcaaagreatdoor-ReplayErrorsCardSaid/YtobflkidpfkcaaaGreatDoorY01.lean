import Derived.Test.YtobflkidpfkcaaaGreatDoorY00
import Derived.TacticsIn
import Derived.RangeFuncIn
import Derived.OrdersIn
set_option maxHeartbeats 4000000
set_option maxRecDepth 100000
set_option linter.unusedSimpArgs false
set_option linter.unusedVariables false
namespace Go.Proofs.YtobflkidpfkcaaaGreatDoor
open Go.RowKit
def iX (ops:List Oper) (o:Oper) (L:FL) (s:SS):Option (Bool × SS):=match o.guard with
 | none=>some (true,s)
 | some (j,want)=>match (ops[j]?).bind (·.dst) with
  | some d=>match L.lookup d with
   | some (.bool b)=>match s.hints with
    | .gd c :: hs=>some (c == want,{ s with hints:=hs,ob:=(b=c) :: s.ob })
    | .gen :: hs=>some (b == want,{ s with hints:=hs })
    | _=>some (b == want,s)
   | some (.tuple _)=>some (false,s)
   | _=>none
  | none=>none
theorem ci {N:Nat} {D:List Deferred} {ops:Array Oper} {o:Oper} {L:FL} {s s':SS} {b:Bool} {a:Act} (h:iX ops.toList o L s=some (b,s')) (hF:Fm N D L a) (hob:∀ p ∈ s'.ob,p) :
  Region.wanted o (yielded ops a.tmps)=b /\ s'.h=s.h /\ s'.cnt=s.cnt:=by
 unfold iX at h
 unfold Region.wanted
 split at h
 ·rename_i hg
  cases h
  rw [hg];exact ⟨rfl,rfl,rfl⟩
 ·rename_i j want hg
  rw [hg]
  simp only
  split at h
  case h_2=>cases h
  rename_i d hd
  have hd':(ops[j]?).bind (·.dst)=some d:=by simpa using hd
  split at h
  ·rename_i x hx
   have hy:yielded ops a.tmps j=some x:=by unfold yielded;rw [hd'];simp [hF.has _ _ hx]
   split at h
   ·cases h
    have:=hob _ (List.mem_cons_self)
    subst this
    rw [hy];exact ⟨by simp,rfl,rfl⟩
   ·cases h
    rw [hy];exact ⟨by simp,rfl,rfl⟩
   ·cases h
    rw [hy];exact ⟨by simp,rfl,rfl⟩
  ·rename_i x hx
   cases h
   have hy:yielded ops a.tmps j=none:=by unfold yielded;rw [hd'];simp [hF.has _ _ hx]
   rw [hy];exact ⟨rfl,rfl,rfl⟩
  ·cases h
theorem bI {ops:List Oper} {o:Oper} {L:FL} {s s':SS} {b:Bool} (h:iX ops o L s=some (b,s')):(∀ p ∈ s.eq,p ∈ s'.eq) /\ (∀ p ∈ s.ob,p ∈ s'.ob) /\ s'.r=s.r /\ s'.wr=s.wr:=by
 unfold iX at h
 repeat' split at h
 all_goals first
  | (cases h;done)
  | (cases h;exact ⟨λ _ h=>h,λ _ h=>h,rfl,rfl⟩)
  | (cases h;exact ⟨λ _ h=>h,λ _ h=>List.mem_cons_of_mem _ h,rfl,rfl⟩)
def uG (P:Program) (n0 N:Nat) (ops:List Oper):List Oper -> FL -> SS -> Option (FL × SS)
 | [],L,s=>some (L,s)
 | o :: rest,L,s=>match iX ops o L s with
  | none=>none
  | some (false,s)=>match eS N o.dst undef L with
   | some L=>uG P n0 N ops rest L s
   | none=>none
  | some (true,s)=>match ii o.op L with
   | false=>none
   | true=>match ev P n0 o (iT L) s with
    | some (.value v,s)=>match eS N o.dst v L with
     | some L=>uG P n0 N ops rest L s
     | none=>none
    | some (.skip,s)=>match eS N o.dst undef L with
     | some L=>uG P n0 N ops rest L s
     | none=>none
    | _=>none
theorem kZ {P:Program} {n0 N:Nat} {ops:List Oper}:∀ (l:List Oper) (L L':FL) (s s':SS),uG P n0 N ops l L s=some (L',s') -> (∀ p ∈ s.eq,p ∈ s'.eq) /\ (∀ p ∈ s.ob,p ∈ s'.ob) /\ s'.r=s.r
 | [],L,L',s,s',h=>by rw [uG] at h;cases h;exact ⟨λ _ h=>h,λ _ h=>h,rfl⟩
 | o :: rest,L,L',s,s',h=>by
  rw [uG] at h
  split at h
  ·cases h
  ·rename_i s1 hw
   split at h
   case h_2=>cases h
   obtain ⟨a1,a2,a3,a4⟩:=bI hw
   obtain ⟨b1,b2,b3⟩:=kZ rest _ _ _ _ h
   exact ⟨λ p hp=>b1 p (a1 p hp),λ p hp=>b2 p (a2 p hp),b3.trans a3⟩
  ·rename_i s1 hw
   split at h
   ·cases h
   obtain ⟨a1,a2,a3,a4⟩:=bI hw
   split at h
   ·rename_i v s2 he
    split at h
    case h_2=>cases h
    obtain ⟨c1,c2,c3,c4⟩:=dk he
    obtain ⟨b1,b2,b3⟩:=kZ rest _ _ _ _ h
    exact ⟨λ p hp=>b1 p (c1 p (a1 p hp)),λ p hp=>b2 p (c2 p (a2 p hp)),b3.trans (c3.trans a3)⟩
   ·rename_i s2 he
    split at h
    case h_2=>cases h
    obtain ⟨c1,c2,c3,c4⟩:=dk he
    obtain ⟨b1,b2,b3⟩:=kZ rest _ _ _ _ h
    exact ⟨λ p hp=>b1 p (c1 p (a1 p hp)),λ p hp=>b2 p (c2 p (a2 p hp)),b3.trans (c3.trans a3)⟩
   ·cases h
def Wr (r:Option Nat):Fence:={ fn:=λ _=>True,depth:=none,alive:=false,round:=r }
theorem js {r:Option Nat} {n:Nat} {P:Program} {f:FuncId} {args:Array Value} {w:World} {R:Ending -> World -> Prop} (h:Calls P f args w R):CallsIn (Wr r) n P f args w R:=(callsIn_wide (n:=n)).2 h
theorem uH {o:Op} {L:FL} (h:ii o L=true):∀ c,o ≠ .defer c:=by
 rintro c rfl
 simp [ii,cf] at h
theorem Fm.sem {r:Option Nat} {N:Nat} {D:List Deferred} {L:FL} {a:Act} (h:Fm N D L a) {o:Oper} (ho:ii o.op L=true):o.semAt (Wr r).round a.eval=execOp (iT L) o:=by
 rw [Oper.semAt_eq _ _ _ (uH ho),h.exec ho]
def AllP:List Prop -> Prop
 | []=>True
 | p :: l=>p /\ AllP l
theorem AllP.mem:∀ {l:List Prop},AllP l -> ∀ p ∈ l,p
 | _ :: _,h,p,hp=>by
  rcases List.mem_cons.1 hp with rfl | hp
  ·exact h.1
  ·exact AllP.mem h.2 p hp
def TR (r:Option Nat) (P:Program) (N:Nat) (D:List Deferred) (F:HL) (w0:World) (L:FL) (H:HL) (c:Code) (Q:Exit -> Act -> World -> Prop):Prop :=
 ∀ a w,Fm N D L a -> Rel (H++F) w -> Below 0 w0 w -> c.wpIn (Wr r) 0 P Q a w
def EX (N:Nat) (D:List Deferred) (F:HL) (w0:World) (L:FL) (H:HL) (Q:Exit -> Act -> World -> Prop) (e:Exit):Prop :=
 ∀ a w,Fm N D L a -> Rel (H++F) w -> Below 0 w0 w -> Q e a w
theorem fF:∀ {l:List (Nat × Nat)} {E:List Nat},l.map (·.1)=E -> l.map (·.2)=E -> ∀ p ∈ l,p.1=p.2
 | [],_,_,_,p,hp=>by cases hp
 | q :: l,E,h1,h2,p,hp=>by
  subst h1
  simp only [List.map_cons,List.cons.injEq] at h2
  rcases List.mem_cons.1 hp with rfl | hp
  ·exact h2.1.symm
  ·exact fF rfl h2.2 p hp
section
variable {r:Option Nat} {P:Program} {N:Nat} {D:List Deferred} {F:HL} {w0:World} {ops:Array Oper} {i:Nat} {L:FL} {H:HL} {Q:Exit -> Act -> World -> Prop}
def Sp (P:Program) (f:FuncId) (args:Array Value) (H F:HL) (R:Value -> HL -> Prop):Prop :=
 ∀ w,Rel (H++F) w -> Calls P f args w λ e w'=>∃ v H',e=.returned v /\ R v H' /\ Rel (H'++F) w' /\ Below 0 w w'
theorem Sp.mono {f:FuncId} {args:Array Value} {R R':Value -> HL -> Prop} (h:Sp P f args H F R) (hr:∀ v H',R v H' -> R' v H'):Sp P f args H F R' :=
 λ w hR=>(h w hR).mono λ e w' ⟨v,H',h1,h2,h3,h4⟩=>⟨v,H',h1,hr _ _ h2,h3,h4⟩
end
def mR (P:Program) (n0 N:Nat) (ops:List Oper) (i:Nat) (L:FL) (H R:HL) (hints:List Hint):Option (Option Tmp × FuncId × Array Value × HL × List Nat × List Nat × List Prop) :=
 match ops[i]? with
 | none=>none
 | some o=>match iX ops o L ⟨H,R,hints,0,[],[],true⟩ with
  | some (true,s)=>match ii o.op L with
   | true=>match ev P n0 o (iT L) s with
    | some (.enter f args,s')=>match s'.hints with
     | []=>some (o.dst,f,args,s'.h,s'.eq.map (·.1),s'.eq.map (·.2),s'.ob)
     | _=>none
    | _=>none
   | false=>none
  | _=>none
section
variable {r:Option Nat} {P:Program} {N:Nat} {D:List Deferred} {F:HL} {w0:World} {ops:Array Oper} {i:Nat} {L:FL} {H:HL} {Q:Exit -> Act -> World -> Prop}
theorem ij {n0:Nat} {R:HL} {hints:List Hint} {dst:Option Tmp} {f:FuncId} {args:Array Value} {H1:HL} {E E':List Nat} {Ob:List Prop} {l:List Oper}
  (h:mR P n0 N l i L H R hints=some (dst,f,args,H1,E,E',Ob)) :
  ∃ o s s',l[i]?=some o /\ iX l o L ⟨H,R,hints,0,[],[],true⟩=some (true,s) /\ ii o.op L=true /\ ev P n0 o (iT L) s=some (.enter f args,s') /\ o.dst=dst /\ s'.h=H1 /\ s'.eq.map (·.1)=E /\ s'.eq.map (·.2)=E' /\ s'.ob=Ob:=by
 unfold mR at h
 split at h
 ·cases h
 ·rename_i o ho
  split at h
  case h_2=>cases h
  rename_i s hs
  split at h
  case h_2=>cases h
  rename_i hok
  split at h
  case h_2=>cases h
  rename_i f' args' s' he
  split at h
  case h_2=>cases h
  simp only [Option.some.injEq,Prod.mk.injEq] at h
  obtain ⟨e1,e2,e3,e4,e5,e6,e7⟩:=h
  subst e2;subst e3
  exact ⟨o,s,s',ho,hs,hok,he,e1,e4,e5,e6,e7⟩
theorem TR.exit {id:Nat} (h:EX N D F w0 L H Q (.exit id)):TR r P N D F w0 L H (.exit id) Q:=λ a w h1 h2 h3=>wpIn_exit (h a w h1 h2 h3)
theorem HD (h:EX N D F w0 L H Q .ret):TR r P N D F w0 L H .ret Q:=λ a w h1 h2 h3=>wpIn_ret (h a w h1 h2 h3)
abbrev ap (A:HL) (Ts:List HL):HL:=A++Ts.flatten
theorem fq {α:Type} (l:List α) (ip ir:List Nat) (hp:(ip++ir).isPerm (List.range l.length)=true):(ip.filterMap (l[·]?)++ir.filterMap (l[·]?)).Perm l:=by
 have h1:=(List.isPerm_iff.1 hp).filterMap (l[·]?)
 have h2:(List.range l.length).filterMap (l[·]?)=l:=by
  clear hp h1
  induction l with
  | nil=>rfl
  | cons x l ih =>
   rw [List.length_cons,List.range_succ_eq_map,List.filterMap_cons]
   simp only [List.getElem?_cons_zero,List.filterMap_map]
   congr 1
 rw [h2,List.filterMap_append] at h1
 exact h1
theorem k8 (A:HL) (Ts:List HL) (ip ir jp jr:List Nat) (hp:(ip++ir).isPerm (List.range A.length)=true) (hj:(jp++jr).isPerm (List.range Ts.length)=true) :
  (ap (ip.filterMap (A[·]?)) (jp.filterMap (Ts[·]?))++ap (ir.filterMap (A[·]?)) (jr.filterMap (Ts[·]?))).Perm (ap A Ts):=by
 have h1:=fq A ip ir hp
 have h2:=(fq Ts jp jr hj).flatten
 rw [List.flatten_append] at h2
 refine List.Perm.trans ?_ (List.Perm.append h1 h2)
 rw [List.append_assoc,List.append_assoc]
 refine List.Perm.append_left _ ?_
 rw [<- List.append_assoc,<- List.append_assoc]
 exact List.Perm.append_right _ List.perm_append_comm
theorem tE (A B:HL) (As Bs:List HL) (C:HL):(ap A As++(ap B Bs++C)).Perm (ap (A++B) (As++Bs)++C):=by
 rw [<- List.append_assoc]
 refine List.Perm.append_right C ?_
 show (A++As.flatten++(B++Bs.flatten)).Perm (A++B++(As++Bs).flatten)
 rw [List.flatten_append,List.append_assoc,List.append_assoc]
 refine List.Perm.append_left _ ?_
 rw [<- List.append_assoc,<- List.append_assoc]
 exact List.Perm.append_right _ List.perm_append_comm
theorem Rel.takeT {A F H':HL} {Ts:List HL} {w:World} (ip ir jp jr:List Nat) (hp:(ip++ir).isPerm (List.range A.length)=true) (hj:(jp++jr).isPerm (List.range Ts.length)=true) (e:ap (ip.filterMap (A[·]?)) (jp.filterMap (Ts[·]?))=H') (h:Rel (ap A Ts++F) w):Rel (H'++F) w:=by
 have h1:=h.perm ((k8 A Ts ip ir jp jr hp hj).append_right F)
 rw [List.append_assoc,e] at h1
 exact h1.sub ((List.Sublist.refl _).append (List.sublist_append_right _ _))
theorem fv {P:Program} {b:Frame} {a:Act} {c:Code} {k:List Item} {cs:List Frame} {w:World} :
  step P (lone (b.atR a (.code (.scope c) :: k)) cs w)=.next (lone (b.atR a (.code c :: .inScope c :: k)) cs w) :=
 step_lone_go (by simp [stepG,stepG.exec,Frame.atR])
theorem rI {P:Program} {b:Frame} {a:Act} {c:Code} {k:List Item} {cs:List Frame} {w:World} :
  step P (lone (b.atR a (.inScope c :: k)) cs w)=.next (lone (b.atR a k) cs w) :=
 step_lone_go (by simp [stepG,stepG.exec,Frame.atR])
theorem gJ {Fe:Fence} {n:Nat} {P:Program} {c:Code} {Q:Exit -> Act -> World -> Prop} {a:Act} {w:World} (h:c.wpIn Fe n P (Exit.noGoto Q) a w):(Code.scope c).wpIn Fe n P Q a w:=by
 intro b k cs hro hb hr
 have h0:(lone (b.atR a (.code (.scope c) :: k)) cs w).fenced P Fe:=fenced_calm hb hr rfl
 obtain ⟨e,a₁,w₁,hq,harr⟩:=h b (.inScope c :: k) cs hro hb hr
 cases e with
 | normal=>exact ⟨.normal,a₁,w₁,hq,.head h0 fv (StepsIn.trans harr (.one (fenced_calm hb hr rfl) rI))⟩
 | exit id=>exact ⟨.exit id,a₁,w₁,hq,λ k' hk=>.head h0 fv (harr.1 k' (by simp [exitTo,hk])),λ hro' hk=>let ⟨k₁,h1,h2⟩:=harr.2 hro' (by simpa [exitTo] using hk);⟨k₁,h1,.head h0 fv h2⟩⟩
 | goto l=>exact hq.elim
 | ret=>exact ⟨_,a₁,w₁,hq,.of_steps (.one h0 fv) harr⟩
 | panic ch=>exact ⟨_,a₁,w₁,hq,.of_steps (.one h0 fv) harr⟩
 | outgrown=>exact ⟨_,a₁,w₁,hq,.of_steps (.one h0 fv) harr⟩
abbrev vI (n:Int):Value:=.int .i64 n
abbrev vP (b o:Nat):Value:=.pointer (some ⟨b,o,none⟩)
abbrev vS (b o n c:Nat):Value:=.slice (some ⟨b,o,none⟩) n c
def iU (l:List Value):Nat -> Nat -> Value:=λ _ k=>(⟨l⟩:Array Value).getD k default
theorem ac {p:Prop} {l:List Prop} (h:p) (k:AllP l):AllP (p :: l):=⟨h,k⟩
theorem an:AllP []:=trivial
theorem mc {F R:HL} {x:Nat × Blk} (h:x ∈ F) (k:∀ y ∈ R,y ∈ F):∀ y ∈ x :: R,y ∈ F:=λ y hy=>by
 rcases List.mem_cons.1 hy with rfl | hy
 ·exact h
 ·exact k y hy
theorem mn {F:HL}:∀ y ∈ ([]:HL),y ∈ F:=λ y hy=>by cases hy
def Kj {σ:Type} (N:Nat) (D:List Deferred) (F:HL) (w0:World) (Lx:σ -> FL) (Hx:σ -> HL) (I:σ -> Prop) (a:Act) (w:World):Prop :=
 ∃ x,I x /\ Fm N D (Lx x) a /\ Rel (Hx x++F) w /\ Below 0 w0 w
theorem TR.loop {σ:Type} (Lx:σ -> FL) (Hx:σ -> HL) (I:σ -> Prop) (μ:σ -> Nat) {c:Code} (x0:σ) (hi:I x0) (keys:List Nat) (hL:r7 keys L=some (Lx x0)) {A:HL} {Ts:List HL} (ip ir jp jr:List Nat) (hp:(ip++ir).isPerm (List.range A.length)=true) (hj:(jp++jr).isPerm (List.range Ts.length)=true) (hH:ap (ip.filterMap (A[·]?)) (jp.filterMap (Ts[·]?))=Hx x0)
  (round:∀ x,I x -> TR r P N D F w0 (Lx x) (Hx x) c (Exit.then (Kj N D F w0 Lx Hx (λ x'=>I x' /\ μ x' < μ x)) Q)):TR r P N D F w0 L (ap A Ts) (.loop c) Q:=by
 intro a w h1 h2 h3
 replace h2:=h2.takeT ip ir jp jr hp hj hH
 have key:∀ n x,μ x <= n -> I x -> ∀ a w,Fm N D (Lx x) a -> Rel (Hx x++F) w -> Below 0 w0 w -> ∀ (b:Frame) (k:List Item) (cs:List Frame),b.roundOf=(Wr r).round -> (Wr r).fn b.fn -> (Wr r).room (cs.length+1+0) -> ∃ e a' w',Q e a' w' /\ ArrivesIn (Machine.fenced P (Wr r)) P (lone (b.atR a (.code c :: .inLoop c :: k)) cs w) b k cs e a' w':=by
  intro n
  induction n using Nat.strongRecOn with
  | _ n ih =>
   intro x hn hI a w k1 k2 k3 b k cs hro hb hr
   obtain ⟨e,a₁,w₁,hq,harr⟩:=round x hI a w k1 k2 k3 b (.inLoop c :: k) cs hro hb hr
   cases e with
   | normal =>
    obtain ⟨x',⟨hI',hlt⟩,m1,m2,m3⟩:=hq
    obtain ⟨e₂,a₂,w₂,hq₂,harr₂⟩:=ih (μ x') (by omega) x' (Nat.le_refl _) hI' a₁ w₁ m1 m2 m3 b k cs hro hb hr
    exact ⟨e₂,a₂,w₂,hq₂,.of_steps (StepsIn.trans harr (.one (fenced_calm hb hr rfl) stepR_inLoop)) harr₂⟩
   | exit id=>exact ⟨_,a₁,w₁,hq,.pass (x:=.inLoop c) rfl (λ _ _=>.inl (by simp)) harr⟩
   | goto l=>exact ⟨_,a₁,w₁,hq,.pass (x:=.inLoop c) rfl (λ _ _=>.inl (by simp)) harr⟩
   | ret=>exact ⟨_,a₁,w₁,hq,.pass (x:=.inLoop c) rfl (λ _ _=>.inl (by simp)) harr⟩
   | panic ch=>exact ⟨_,a₁,w₁,hq,.pass (x:=.inLoop c) rfl (λ _ _=>.inl (by simp)) harr⟩
   | outgrown=>exact ⟨_,a₁,w₁,hq,.pass (x:=.inLoop c) rfl (λ _ _=>.inl (by simp)) harr⟩
 intro b k cs hro hb hr
 obtain ⟨e,a',w',hq,harr⟩:=key _ x0 (Nat.le_refl _) hi a w (h1.pick hL) h2 h3 b k cs hro hb hr
 exact ⟨e,a',w',hq,.of_steps (.one (fenced_calm hb hr rfl) stepR_loop) harr⟩
def zB (F:HL) (w0:World) (R:Value -> HL -> Prop) (e:Ending) (w':World):Prop:=∃ v H',e=.returned v /\ R v H' /\ Rel (H'++F) w' /\ Below 0 w0 w'
def pS:Nat -> List Value -> FL
 | _,[]=>[]
 | n,v :: l=>(n,v) :: pS (n+1) l
theorem jT:∀ (n:Nat) (l:List Value) (t:Nat) (v:Value),(pS n l).lookup t=some v -> n <= t /\ l[t - n]?=some v
 | _,[],_,_,h=>by cases h
 | n,u :: l,t,v,h=>by
  rw [pS,List.lookup_cons] at h
  by_cases e:t=n
  ·subst e;simp at h;subst h;simp
  ·have:(t == n)=false:=by simpa using e
   rw [this] at h
   obtain ⟨h1,h2⟩:=jT (n+1) l t v h
   refine ⟨by omega,?_⟩
   have:t - n=(t - (n+1))+1:=by omega
   rw [this];simpa using h2
theorem xG {f:FuncId} {fn:Func} {c:Code} {args:Array Value} {R:Value -> HL -> Prop} (hf:P.funcs[f]?=some fn) (hb:fn.body=some c) (hn:fn.ntmps=N) (ha:decide (args.size <= N)=true)
  (L:FL) (hL:pS 0 args.toList=L) (h:∀ w0,TR none P N [] F w0 L H c (bodyPost P fn (zB F w0 R))):Sp P f args H F R:=by
 intro w hR
 refine calls_of_wp hf hb ((wpIn_wide (n:=0)).1 ?_)
 have ha':args.size <= N:=of_decide_eq_true ha
 refine h w _ w ⟨?_,rfl,?_⟩ hR (Below.refl _ _)
 ·simp [hn];omega
 ·subst hL
  intro t v ht
  obtain ⟨_,h2⟩:=jT 0 _ t v ht
  have h3:args[t]?=some v:=by simpa using h2
  have hlt:t < args.size:=(Array.getElem?_eq_some_iff.1 h3).1
  simp only
  rw [Array.getElem?_append_left hlt]
  exact h3
def pT (P:Program) (n0:Nat) (L:FL):List ResultVar -> SS -> Option (List Value × SS)
 | [],s=>some ([],s)
 | .tmp t :: l,s=>match L.lookup t with
  | some v=>match pT P n0 L l s with
   | some (vs,s)=>some (v :: vs,s)
   | none=>none
  | none=>none
 | .cell t ty :: l,s=>match L.lookup t with
  | some (.pointer (some a))=>match cg P n0 (loadVar ty a) s with
   | some (v,s)=>match pT P n0 L l s with
    | some (vs,s)=>some (v :: vs,s)
    | none=>none
   | none=>none
  | _=>none
def Oh:List Value -> Value
 | [v]=>v
 | vs=>.tuple ⟨vs⟩
def xH (P:Program) (n0:Nat) (L:FL) (rs:List ResultVar) (H R:HL) (hints:List Hint):Option (Value × List Nat × List Nat × List Prop) :=
 match pT P n0 L rs ⟨H,R,hints,0,[],[],false⟩ with
 | some (vs,s)=>match s.hints with
  | []=>some (Oh vs,s.eq.map (·.1),s.eq.map (·.2),s.ob)
  | _=>none
 | none=>none
theorem mg {n0:Nat}:∀ (rs:List ResultVar) (s s':SS) (vs:List Value),pT P n0 L rs s=some (vs,s') -> (∀ p ∈ s.eq,p ∈ s'.eq) /\ (∀ p ∈ s.ob,p ∈ s'.ob)
 | [],s,s',vs,h=>by rw [pT] at h;cases h;exact ⟨λ _ h=>h,λ _ h=>h⟩
 | .tmp t :: l,s,s',vs,h=>by
  rw [pT] at h
  split at h
  ·split at h
   ·rename_i hr
    cases h
    exact mg l _ _ _ hr
   ·cases h
  ·cases h
 | .cell t ty :: l,s,s',vs,h=>by
  rw [pT] at h
  split at h
  ·split at h
   ·rename_i ha
    split at h
    ·rename_i hr
     cases h
     obtain ⟨a1,a2,_⟩:=dj _ _ _ _ ha
     obtain ⟨b1,b2⟩:=mg l _ _ _ hr
     exact ⟨λ p hp=>b1 p (a1 p hp),λ p hp=>b2 p (a2 p hp)⟩
    ·cases h
   ·cases h
  ·cases h
def uI (tmps:Array Value):ResultVar -> Sem Value
 | .tmp t=>pure (tmps.getD t undef)
 | .cell a t=>do loadVar t (<- asAddr (tmps.getD a undef))
theorem ju {n0:Nat} {a:Act} {w:World} (hF:Fm N D L a) (hR:Rel (H++F) w):∀ (rs:List ResultVar) (s s':SS) (vs:List Value),pT P n0 L rs s=some (vs,s') -> s.wr=false -> s.h=H -> (∀ y ∈ s.r,y ∈ F) -> (s.wr=true -> n0+s.cnt=w.heap.size) ->
  (∀ p ∈ s'.eq,p.1=p.2) -> (∀ p ∈ s'.ob,p) -> (rs.mapM (uI a.tmps)).run P w=.ok vs w
 | [],s,s',vs,h,_,_,_,_,_,_=>by rw [pT] at h;cases h;rfl
 | .tmp t :: l,s,s',vs,h,hw,hh,hr,hn,heq,hob=>by
  rw [pT] at h
  split at h
  ·rename_i v hv
   split at h
   ·rename_i vs' s1 hr1
    cases h
    have ih:=ju hF hR l _ _ _ hr1 hw hh hr hn heq hob
    rw [List.mapM_cons,Sem.run_bind]
    simp [uI,hF.has _ _ hv,Sem.run_bind,ih]
   ·cases h
  ·cases h
 | .cell t ty :: l,s,s',vs,h,hw,hh,hr,hn,heq,hob=>by
  rw [pT] at h
  split at h
  ·rename_i ad hv
   split at h
   ·rename_i v s1 ha
    split at h
    ·rename_i vs' s2 hr1
     cases h
     obtain ⟨a1,a2,a3,a4⟩:=dj _ _ _ _ ha
     obtain ⟨b1,b2⟩:=mg l _ _ _ hr1
     obtain ⟨w1,e1,e2,e3,e4,e5⟩:=ma (F:=F) _ _ _ _ w ha (λ p hp=>heq p (b1 p hp)) (λ p hp=>hob p (b2 p hp)) (by rw [hh];exact hR) hr hn
     obtain rfl:=e5 hw
     have hh1:s1.h=H:=by rw [zy _ _ _ _ ha hw];exact hh
     have ih:=ju hF hR l _ _ _ hr1 (a4.trans hw) hh1 (by rw [a3];exact hr) (λ e=>e4 (a4.symm.trans e)) heq hob
     rw [List.mapM_cons,Sem.run_bind]
     simp [uI,hF.has _ _ hv,Sem.run_bind,asAddr,e1,ih]
    ·cases h
   ·cases h
  ·cases h
theorem iY {fn:Func} {rs:List ResultVar} (hrs:fn.results=⟨rs⟩) {tmps:Array Value} {w:World} {vs:List Value} (h:(rs.mapM (uI tmps)).run P w=.ok vs w):(results fn tmps).run P w=.ok (Oh vs) w:=by
 have h1:(results fn tmps)=(do let vs <- (⟨rs⟩:Array ResultVar).mapM (uI tmps);pure (if h:vs.size=1 then vs[0] else .tuple vs)):=by
  unfold results
  rw [hrs]
  congr 1
 rw [h1]
 have h2:(⟨rs⟩:Array ResultVar).mapM (uI tmps)=List.toArray <$> rs.mapM (uI tmps):=by simp
 rw [h2]
 have h3:((List.toArray <$> rs.mapM (uI tmps)):Sem (Array Value)).run P w=.ok ⟨vs⟩ w:=by
  rw [map_eq_pure_bind,Sem.run_bind,h];rfl
 rw [Sem.run_bind,h3]
 match vs with
 | []=>rfl
 | [v]=>rfl
 | v :: u :: l=>simp [Oh]
theorem TR.ret {fn:Func} {R:Value -> HL -> Prop} (hQ:∀ a w,bodyPost P fn (zB F w0 R) .ret a w -> Q .ret a w) {rs:List ResultVar} (hrs:fn.results=⟨rs⟩) (hD:D=[]) (Ro:HL) (hints:List Hint) (v:Value) (E:List Nat) (Ob:List Prop)
  {A:HL} {Ts:List HL} (h:∀ n0,xH P n0 L rs (ap A Ts) Ro hints=some (v,E,E,Ob)) (hRo:∀ y ∈ Ro,y ∈ F) (hob:AllP Ob) (ip ir jp jr:List Nat) (H':HL) (hp:(ip++ir).isPerm (List.range A.length)=true) (hj:(jp++jr).isPerm (List.range Ts.length)=true) (hH:ap (ip.filterMap (A[·]?)) (jp.filterMap (Ts[·]?))=H') (hv:R v H'):TR r P N D F w0 L (ap A Ts) .ret Q:=by
 refine HD ?_
 intro a w hF hR hB
 refine hQ a w ?_
 have h':=h w.heap.size
 unfold xH at h'
 split at h'
 case h_2=>cases h'
 rename_i vs s hs
 split at h'
 case h_2=>cases h'
 simp only [Option.some.injEq,Prod.mk.injEq] at h'
 obtain ⟨e1,e2,e3,e4⟩:=h'
 have hrun:=ju (P:=P) hF hR rs _ _ _ hs rfl rfl hRo (λ e=>by cases e) (fF e2 e3) (by rw [e4];exact AllP.mem hob)
 subst e1
 exact ⟨hF.defs.trans hD,_,iY hrs hrun,_,H',rfl,hv,hR.takeT ip ir jp jr hp hj hH,hB⟩
theorem uJ {f:FuncId} {args:Array Value} {v:Value} (h:∀ w,Calls P f args w λ e w'=>e=.returned v /\ w'=w) (F:HL):Sp P f args [] F (λ u H'=>u=v /\ H'=[]):=λ w hR =>
 (h w).mono λ e w' ⟨h1,h2⟩=>⟨v,[],h1,⟨rfl,rfl⟩,by rw [h2];exact hR,by rw [h2];exact Below.refl _ _⟩
end
def d7 (P:Program) (o:Oper) (a:Act) (w:World) (R:Value -> World -> Prop):Prop:=match (execOp a.eval o).run P w with
 | .ok (.value u) w'=>R u w'
 | .ok .skip w'=>R undef w'
 | .ok (.enter f args) w'=>Calls P f args w' fun
  | .returned u,w''=>R u w''
  | _,_=>False
 | _=>False
theorem d8 {P:Program} {o:Oper} {a:Act} {w:World} {R R':Value -> World -> Prop} (h:d7 P o a w R) (hr:∀ u w,R u w -> R' u w):d7 P o a w R':=by
 unfold d7 at *
 split at h
 ·exact hr _ _ h
 ·exact hr _ _ h
 ·exact h.mono λ e w he=>by cases e <;> first | exact hr _ _ he | exact he
 ·exact h
theorem fR {r:Option Nat} {P:Program} {o:Oper} {a:Act} {w:World} {R:Value -> World -> Prop} {K:Act -> World -> Prop} {Q:Exit -> Act -> World -> Prop} (hd:∀ c,o.op ≠ .defer c) (h:d7 P o a w R) (hk:∀ u w',R u w' -> K (a.put o.dst u) w') :
  o.uponIn (Wr r) 0 P a K Q ((o.semAt (Wr r).round a.eval).run P w):=by
 rw [Oper.semAt_eq _ _ _ hd]
 unfold d7 at h
 split at h
 ·rename_i u w' he;rw [he];exact hk _ _ h
 ·rename_i w' he;rw [he];exact hk _ _ h
 ·rename_i f args w' he;rw [he,Oper.uponIn_enter]
  exact ⟨λ h=>(by cases h),js (h.mono λ e w he=>by
   cases e with
   | returned u=>exact hk _ _ he
   | panicked _=>exact he.elim
   | outgrown=>exact he.elim)⟩
 ·exact h.elim
theorem pU {P:Program} {o:Oper} {a a':Act} {w:World} {R:Value -> World -> Prop} (he:execOp a'.eval o=execOp a.eval o) (h:d7 P o a w R):d7 P o a' w R:=by
 unfold d7 at *;rw [he];exact h
section
variable {P:Program} {ops:Array Oper} {Q:Exit -> Act -> World -> Prop} {F:HL} {w0:World} {hards:List Nat} {Rd:HL}
def OPJ (P:Program) (ops:Array Oper) (F:HL) (w0:World) (hards:List Nat) (Rd:HL) (i:Nat) (a:Act) (H:HL) (K:Act -> HL -> Prop):Prop:=match ops[i]? with
 | none=>False
 | some o=>if Region.wanted o (yielded ops a.tmps)=true then
   ∀ w,Rel (H++F) w -> Below 0 w0 w -> d7 P o a w λ u w'=>∃ H',((i ∉ hards -> ∃ X,H'=X++H) /\ (i ∈ hards -> ∀ x ∈ Rd,x ∈ H')) /\ K (a.put o.dst u) H' /\ Rel (H'++F) w' /\ Below 0 w0 w'
  else K (a.put o.dst undef) H
def Oi (Q:Exit -> Act -> World -> Prop) (F:HL) (w0:World) (a:Act) (H:HL):Prop:=∀ w,Rel (H++F) w -> Below 0 w0 w -> Q .normal a w
def JJ (P:Program) (ops:Array Oper) (Q:Exit -> Act -> World -> Prop) (F:HL) (w0:World) (hards:List Nat) (Rd:HL):Nat -> Array Bool -> Act -> HL -> Prop
 | 0,listed,a,H=>Region.ready .any ops listed=[] /\ Oi Q F w0 a H
 | fuel+1,listed,a,H=>(Region.ready .any ops listed=[] -> Oi Q F w0 a H) /\
  ∀ i ∈ Region.ready .any ops listed,OPJ P ops F w0 hards Rd i a H (JJ P ops Q F w0 hards Rd fuel (listed.setIfInBounds i true))
def VO (P:Program) (ops:Array Oper) (F:HL) (w0:World) (o:Oper) (v:Value) (a:Act) (H:HL):Prop :=
 (Region.wanted o (yielded ops a.tmps)=true /\ ∀ X w,Rel (X++(H++F)) w -> Below 0 w0 w -> d7 P o a w λ u w'=>u=v /\ Rel (X++(H++F)) w' /\ Below 0 w0 w') \/
 (Region.wanted o (yielded ops a.tmps)=false /\ v=undef)
theorem VO.same {o:Oper} {v:Value} {a a':Act} {H:HL} (h:VO P ops F w0 o v a H) (he:execOp a'.eval o=execOp a.eval o) (hw:Region.wanted o (yielded ops a'.tmps)=Region.wanted o (yielded ops a.tmps)):VO P ops F w0 o v a' H:=by
 rcases h with ⟨h1,h2⟩ | ⟨h1,h2⟩
 ·exact .inl ⟨hw.trans h1,λ X w hR hB=>pU he (h2 X w hR hB)⟩
 ·exact .inr ⟨hw.trans h1,h2⟩
theorem VO.more {o:Oper} {v:Value} {a:Act} {H:HL} (h:VO P ops F w0 o v a H) (X:HL):VO P ops F w0 o v a (X++H):=by
 rcases h with ⟨h1,h2⟩ | ⟨h1,h2⟩
 ·refine .inl ⟨h1,λ Y w hR hB=>?_⟩
  have e:Y++(X++H++F)=(Y++X)++(H++F):=by simp
  rw [e] at hR ⊢
  exact h2 (Y++X) w hR hB
 ·exact .inr ⟨h1,h2⟩
theorem VO.opj {i:Nat} {o:Oper} {v:Value} {a:Act} {H:HL} (hRd:∀ x ∈ Rd,x ∈ H) (hi:ops[i]?=some o) (h:VO P ops F w0 o v a H) {K:Act -> HL -> Prop} (hk:K (a.put o.dst v) H):OPJ P ops F w0 hards Rd i a H K:=by
 unfold OPJ
 rw [hi]
 simp only
 rcases h with ⟨h1,h2⟩ | ⟨h1,rfl⟩
 ·rw [if_pos h1]
  intro w hR hB
  refine d8 (h2 [] w hR hB) ?_
  rintro u w' ⟨rfl,h3,h4⟩
  exact ⟨H,⟨λ _=>⟨[],rfl⟩,λ _=>hRd⟩,hk,h3,h4⟩
 ·rw [if_neg (by rw [h1];simp)]
  exact hk
def comes (ops:Array Oper) (i:Nat):Nat -> Nat -> Bool
 | 0,_=>false
 | f+1,m=>match ops[m]? with
  | some o=>o.after.toList.any λ e=>Region.binds .any e && (e.on == i || comes ops i f e.on)
  | none=>false
def Closed (ops:Array Oper) (listed:Array Bool):Prop :=
 ∀ j oj,ops[j]?=some oj -> listed.getD j false=true -> ∀ e ∈ oj.after,Region.binds .any e=true -> listed.getD e.on false=true
theorem Closed.set {listed:Array Bool} {j:Nat} (h:Closed ops listed) (hj:j ∈ Region.ready .any ops listed):Closed ops (listed.setIfInBounds j true):=by
 obtain ⟨_,oj,hoj,hall⟩:=mem_ready.1 hj
 intro k ok hk hl e he hb
 by_cases hjk:j=k
 ·subst hjk
  obtain rfl:ok=oj:=Option.some.inj (hk.symm.trans hoj)
  exact getD_set_true (hall e he hb)
 ·rw [getD_set_ne false hjk] at hl
  exact getD_set_true (h k ok hk hl e he hb)
theorem Closed.comes {listed:Array Bool} (h:Closed ops listed) {i:Nat} (hi:listed.getD i false=false):∀ (f m:Nat),comes ops i f m=true -> listed.getD m false=false
 | 0,m,ha=>by simp [YtobflkidpfkcaaaGreatDoor.comes] at ha
 | f+1,m,ha=>by
  rw [YtobflkidpfkcaaaGreatDoor.comes] at ha
  cases hm:ops[m]? with
  | none=>rw [hm] at ha;cases ha
  | some o =>
   rw [hm] at ha
   obtain ⟨e,he,hb⟩:=List.any_eq_true.1 ha
   simp only [Bool.and_eq_true,Bool.or_eq_true,beq_iff_eq] at hb
   cases hl:listed.getD m false with
   | false=>rfl
   | true =>
    have h1:=h m o hm hl e (by simpa using he) hb.1
    rcases hb.2 with h2 | h2
    ·rw [h2,hi] at h1;cases h1
    ·rw [h.comes hi f e.on h2] at h1;cases h1
theorem pV {listed:Array Bool} {i:Nat} (h:listed.getD i true=false):listed.getD i false=false:=by
 rcases Nat.lt_or_ge i listed.size with h' | h'
 ·simp [h'] at h ⊢;exact h
 ·simp [Array.getElem?_eq_none h'] at h
theorem DC {i:Nat} {oi:Oper} {v:Value} (hi:ops[i]?=some oi) (hsel:∀ (j:Nat) (o:Oper) cs b,ops[j]?=some o -> o.op ≠ .select cs b) :
  ∀ (fuel:Nat) (listed:Array Bool) (a:Act) (H:HL),((∀ m ∈ hards,comes ops i ops.size m=true) \/ ∀ H',(∀ x ∈ Rd,x ∈ H') -> VO P ops F w0 oi v a H') -> (∀ x ∈ Rd,x ∈ H) -> Closed ops listed ->
   (∀ j oj,ops[j]?=some oj -> j ≠ i -> listed.getD j true=false -> (∀ e ∈ oj.after,Region.binds .any e=true -> e.on ≠ i) -> oi.apart ops oj=true) ->
   i ∈ Region.ready .any ops listed -> VO P ops F w0 oi v a H ->
   JJ P ops Q F w0 hards Rd fuel (listed.setIfInBounds i true) (a.put oi.dst v) H -> JJ P ops Q F w0 hards Rd (fuel+1) listed a H:=by
 intro fuel
 induction fuel with
 | zero =>
  intro listed a H _ hRd _ _ hr hy hj0
  refine ⟨λ h=>(by rw [h] at hr;cases hr),λ j hj=>?_⟩
  by_cases hji:j=i
  ·subst hji;exact hy.opj hRd hi hj0
  ·have:=ready_mono hj hji
   rw [hj0.1] at this
   cases this
 | succ fuel ih =>
  intro listed a H hh hRd hcl hfree hr hy hJ
  refine ⟨λ h=>(by rw [h] at hr;cases hr),λ j hj=>?_⟩
  by_cases hji:j=i
  ·subst hji;exact hy.opj hRd hi hJ
  ·have h1:=hJ.2 j (ready_mono hj hji)
   obtain ⟨hjun,oj,hoj,hall⟩:=mem_ready.1 hj
   have hiun:=(mem_ready.1 hr).1
   have hnot:∀ e ∈ oj.after,Region.binds .any e=true -> e.on ≠ i:=λ e he hb heq=>by
    have h1:=hall e he hb
    rw [heq,pV hiun] at h1
    cases h1
   obtain ⟨p1,p2,p3⟩:=Oper.apart_spec (hfree j oj hoj hji hjun hnot)
   have hcl':=hcl.set hj
   have hiun':(listed.setIfInBounds j true).getD i false=false:=by rw [getD_set_ne false hji];exact pV hiun
   have hjlt:j < listed.size:=by
    rcases Nat.lt_or_ge j listed.size with h | h
    ·exact h
    ·simp [Array.getElem?_eq_none h] at hjun
   have hjn:(∀ m ∈ hards,comes ops i ops.size m=true) -> j ∉ hards:=λ hh hm=>by
    have h2:=hcl'.comes hiun' _ j (hh j hm)
    simp [hjlt] at h2
   have hfree':∀ k ok,ops[k]?=some ok -> k ≠ i -> (listed.setIfInBounds j true).getD k true=false ->
     (∀ e ∈ ok.after,Region.binds .any e=true -> e.on ≠ i) -> oi.apart ops ok=true:=λ k ok hk hki hun hno=>by
    refine hfree k ok hk hki ?_ hno
    by_cases hjk:j=k
    ·subst hjk;exact hjun
    ·rw [getD_set_ne true hjk] at hun;exact hun
   have hr':=ready_mono hr (Ne.symm hji)
   unfold OPJ at h1 ⊢
   rw [hoj] at h1 ⊢
   simp only at h1 ⊢
   rw [wanted_put oj a oi.dst v p1] at h1
   have keep:∀ u,VO P ops F w0 oi v (a.put oj.dst u) H:=λ u=>hy.same (execOp_put oi (λ cs b=>hsel i oi cs b hi) a oj.dst u p3) (wanted_put oi a oj.dst u p3)
   have keepA:(∀ H',(∀ x ∈ Rd,x ∈ H') -> VO P ops F w0 oi v a H') -> ∀ u H',(∀ x ∈ Rd,x ∈ H') -> VO P ops F w0 oi v (a.put oj.dst u) H':=λ hh u H' hr=>(hh H' hr).same (execOp_put oi (λ cs b=>hsel i oi cs b hi) a oj.dst u p3) (wanted_put oi a oj.dst u p3)
   by_cases hw:Region.wanted oj (yielded ops a.tmps)=true
   ·rw [if_pos hw] at h1 ⊢
    intro w hR hB
    refine d8 (pU (execOp_put oj (λ cs b=>hsel j oj cs b hoj) a oi.dst v p1).symm (h1 w hR hB)) ?_
    rintro u w' ⟨H',hx,h2,h3,h4⟩
    refine ⟨H',hx,?_,h3,h4⟩
    have hRd':∀ x ∈ Rd,x ∈ H':=by
     by_cases hjh:j ∈ hards
     ·exact hx.2 hjh
     ·obtain ⟨X,rfl⟩:=hx.1 hjh
      exact λ x hx=>List.mem_append_right _ (hRd x hx)
    have hy':VO P ops F w0 oi v (a.put oj.dst u) H':=by
     rcases hh with hh | hh
     ·obtain ⟨X,rfl⟩:=hx.1 (hjn hh)
      exact (keep u).more X
     ·exact keepA hh u H' hRd'
    refine ih _ _ _ (hh.imp id λ hh=>keepA hh u) hRd' hcl' hfree' hr' hy' ?_
    rw [Array.setIfInBounds_comm _ _ hji,<- Act.put_comm a v u p2]
    exact h2
   ·rw [if_neg hw] at h1 ⊢
    refine ih _ _ _ (hh.imp id λ hh=>keepA hh undef) hRd hcl' hfree' hr' (keep undef) ?_
    rw [Array.setIfInBounds_comm _ _ hji,<- Act.put_comm a v undef p2]
    exact h1
end
def jc (ops:List Oper) (listed:List Bool):List Nat :=
 (List.range ops.length).filter λ i=>!(listed.getD i true) && ((ops[i]?).map (·.after.toList.all λ e=>!Region.binds .any e || listed.getD e.on false)).getD false
theorem k9 (ops:Array Oper) (listed:List Bool):Region.ready .any ops ⟨listed⟩=jc ops.toList listed:=by
 unfold Region.ready jc
 rw [Array.length_toList]
 apply List.filter_congr
 intro i _
 simp only [Array.getD_eq_getD_getElem?,List.getElem?_toArray,List.getD_eq_getElem?_getD,Array.getElem?_toList]
 congr 1
 cases ops[i]? with
 | none=>rfl
 | some o=>simp
def L0 (ops:List Oper) (hards:List Nat) (listed:List Bool) (i:Nat):Bool :=
 (jc ops listed).contains i && Region.free .any ⟨ops⟩ ⟨listed⟩ i && hards.all (λ m=>comes ⟨ops⟩ i ops.length m)
def L2 (ops:List Oper) (listed:List Bool) (i:Nat):Bool :=
 (jc ops listed).contains i && Region.free .any ⟨ops⟩ ⟨listed⟩ i
def TD (P:Program) (N:Nat) (D:List Deferred) (F:HL) (w0:World) (ops:Array Oper) (hards:List Nat) (Rd:HL) (fuel:Nat) (listed:List Bool) (L:FL) (H:HL) (Q:Exit -> Act -> World -> Prop):Prop :=
 Closed ops ⟨listed⟩ -> ∀ a,Fm N D L a -> JJ P ops Q F w0 hards Rd fuel ⟨listed⟩ a H
section
variable {r:Option Nat} {P:Program} {N:Nat} {D:List Deferred} {F:HL} {w0:World} {ops:Array Oper} {hards:List Nat} {Rd:HL} {fuel:Nat} {listed:List Bool} {L:FL} {H:HL} {Q:Exit -> Act -> World -> Prop}
theorem uK (n:Nat):Closed ops ⟨List.replicate n false⟩:=by
 intro j oj _ hl
 exfalso
 rcases Nat.lt_or_ge j n with h | h
 ·simp [h] at hl
 ·simp [h] at hl
def pz (ops:Array Oper):Bool:=ops.all λ o=>match o.op with | .defer _=>false | _=>true
theorem tF (h:pz ops=true) (j:Nat) (o:Oper) (c:Call) (ho:ops[j]?=some o):o.op ≠ .defer c:=by
 intro heq
 have:=Array.all_eq_true_iff_forall_mem.1 h o (Array.mem_of_getElem? ho)
 simp [heq] at this
theorem jd (hd:pz ops=true):∀ (fuel:Nat) (listed:Array Bool) (a:Act) (H:HL) (w:World),JJ P ops (NoPanic Q) F w0 hards Rd fuel listed a H -> Rel (H++F) w -> Below 0 w0 w -> wpAnyIn (Wr r) 0 P .any ops Q fuel listed a w
 | 0,_,a,H,w,h,hR,hB=>⟨h.1,h.2 w hR hB⟩
 | fuel+1,listed,a,H,w,h,hR,hB=>by
  refine ⟨λ hr=>h.1 hr w hR hB,λ i hi=>?_⟩
  have h1:=h.2 i hi
  unfold OPJ at h1
  unfold wpOpIn
  cases ho:ops[i]? with
  | none=>rw [ho] at h1;exact h1.elim
  | some o =>
   rw [ho] at h1
   simp only at h1 ⊢
   by_cases hw:Region.wanted o (yielded ops a.tmps)=true
   ·rw [if_pos hw] at h1 ⊢
    refine ⟨λ _ _=>trivial,fR (λ c=>tF hd i o c ho) (h1 w hR hB) ?_⟩
    rintro u w' ⟨H',_,h2,h3,h4⟩
    exact jd hd fuel _ _ H' w' h2 h3 h4
   ·rw [if_neg hw] at h1 ⊢
    exact ⟨λ _ _=>trivial,jd hd fuel _ _ H w h1 hR hB⟩
theorem TR.draw {id:Nat} (hards:List Nat) (Rd:HL) (hm:P.follows .mixedOrders=true) (hs:Region.noSelect ops=true) (hd:pz ops=true) (h:TD P N D F w0 ops hards Rd ops.size (List.replicate ops.toList.length false) L H (NoPanic Q)):TR r P N D F w0 L H (.region id ops true) Q:=by
 intro a w h1 h2 h3
 refine wpIn_region_any hm ?_
 have h4:=h (uK _) a h1
 have e:Array.replicate ops.size false=⟨List.replicate ops.toList.length false⟩:=by simp
 rw [e]
 refine jd hd (hards:=hards) (Rd:=Rd) _ _ _ H _ h4 (h2.world rfl) ⟨h3.os,h3.tape,h3.output,h3.size,λ k hk=>by omega⟩
theorem TD.fin (hr:jc ops.toList listed=[]) (h:EX N D F w0 L H Q .normal):TD P N D F w0 ops hards Rd fuel listed L H Q:=by
 intro _ a hF
 have hr':=(k9 ops listed).trans hr
 have hx:Oi Q F w0 a H:=λ w hR hB=>h a w hF hR hB
 cases fuel with
 | zero=>exact ⟨hr',hx⟩
 | succ n=>exact ⟨λ _=>hx,λ i hi=>by rw [hr'] at hi;cases hi⟩
theorem Mb (h:EX N D F w0 L H Q .normal):EX N D F w0 L H (NoPanic Q) .normal:=h
def rJ (P:Program) (n0 N:Nat) (ops:List Oper) (hards:List Nat) (Rd:HL):List Nat -> List Bool -> FL -> SS -> Option (List Bool × FL × SS)
 | [],listed,L,s=>some (listed,L,s)
 | i :: is,listed,L,s=>match L2 ops listed i,ops[i]? with
  | true,some o=>match iX ops o L s with
   | none=>none
   | some (false,s)=>match eS N o.dst undef L with
    | some L=>rJ P n0 N ops hards Rd is (br listed i true) L s
    | none=>none
   | some (true,s)=>match ii o.op L with
    | false=>none
    | true=>match L0 ops hards listed i with
     | true=>match ev P n0 o (iT L) s with
      | some (.value v,s)=>match eS N o.dst v L with
       | some L=>rJ P n0 N ops hards Rd is (br listed i true) L s
       | none=>none
      | _=>none
     | false=>match ev P n0 o (iT L) { s with h:=[],r:=Rd++s.r } with
      | some (.value v,s')=>match eS N o.dst v L with
       | some L=>rJ P n0 N ops hards Rd is (br listed i true) L { s' with h:=s.h,r:=s.r }
       | none=>none
      | _=>none
  | _,_=>none
theorem DD {i:Nat} (h:L2 ops.toList listed i=true):i ∈ Region.ready .any ops ⟨listed⟩ /\ Region.free .any ops ⟨listed⟩ i=true:=by
 unfold L2 at h
 simp only [Bool.and_eq_true,List.contains_iff_mem] at h
 exact ⟨by rw [k9];exact h.1,h.2⟩
theorem DE {i:Nat} (h:L0 ops.toList hards listed i=true):i ∈ Region.ready .any ops ⟨listed⟩ /\ Region.free .any ops ⟨listed⟩ i=true /\ ∀ m ∈ hards,comes ops i ops.size m=true:=by
 unfold L0 at h
 simp only [Bool.and_eq_true,List.contains_iff_mem,List.all_eq_true] at h
 obtain ⟨⟨h1,h2⟩,h3⟩:=h
 exact ⟨by rw [k9];exact h1,h2,λ m hm=>by simpa using h3 m hm⟩
theorem ik {n0:Nat} {l:List Oper}:∀ (is:List Nat) (b b':List Bool) (L L':FL) (s s':SS),rJ P n0 N l hards Rd is b L s=some (b',L',s') -> (∀ p ∈ s.eq,p ∈ s'.eq) /\ (∀ p ∈ s.ob,p ∈ s'.ob)
 | [],b,b',L,L',s,s',h=>by rw [rJ] at h;cases h;exact ⟨λ _ h=>h,λ _ h=>h⟩
 | i :: is,b,b',L,L',s,s',h=>by
  rw [rJ] at h
  split at h
  case h_2=>cases h
  split at h
  ·cases h
  ·rename_i hw
   split at h
   case h_2=>cases h
   obtain ⟨a1,a2,_⟩:=bI hw
   obtain ⟨b1,b2⟩:=ik is _ _ _ _ _ _ h
   exact ⟨λ p hp=>b1 p (a1 p hp),λ p hp=>b2 p (a2 p hp)⟩
  ·rename_i hw
   split at h
   ·cases h
   split at h
   all_goals
    split at h
    case h_2=>cases h
    rename_i he
    split at h
    case h_2=>cases h
    obtain ⟨a1,a2,_⟩:=bI hw
    obtain ⟨c1,c2,_⟩:=dk he
    obtain ⟨b1,b2⟩:=ik is _ _ _ _ _ _ h
    exact ⟨λ p hp=>b1 p (c1 p (a1 p hp)),λ p hp=>b2 p (c2 p (a2 p hp))⟩
theorem Mc {n0:Nat} {o:Oper} {ρ:Operand -> Value} {s s':SS} {x:Next} (h:ev P n0 o ρ s=some (x,s')) (hw:s.wr=false):s'.h=s.h:=by
 unfold ev at h
 repeat' split at h
 all_goals first
  | exact (zy _ _ _ _ h hw :)
  | (cases h;done)
  | (cases h;rfl)
  | (rename_i e;rw [hw] at e;cases e)
theorem mS (i:Nat):(⟨listed⟩:Array Bool).setIfInBounds i true=⟨br listed i true⟩:=by
 rw [ig];simp
theorem uL {i:Nat} {o:Oper} {v:Value} {L1:FL} (hs:Region.noSelect ops=true) (hok:L2 ops.toList listed i=true) (ho:ops[i]?=some o) (hp:∀ a,Fm N D L a -> Fm N D L1 (a.put o.dst v)) (hv:∀ a,Fm N D L a -> VO P ops F w0 o v a H)
  (hRd:∀ x ∈ Rd,x ∈ H) (hh:L0 ops.toList hards listed i=true \/ ∀ a,Fm N D L a -> ∀ H',(∀ x ∈ Rd,x ∈ H') -> VO P ops F w0 o v a H')
  (h:TD P N D F w0 ops hards Rd fuel (br listed i true) L1 H Q):TD P N D F w0 ops hards Rd (fuel+1) listed L H Q:=by
 intro hcl a hF
 obtain ⟨h1,h2⟩:=DD hok
 refine DC ho (Region.noSelect_spec hs) fuel _ a H (hh.imp (λ hh=>(DE hh).2.2) (λ hh=>hh a hF)) hRd hcl (Region.free_spec ho h2) h1 (hv a hF) ?_
 rw [mS]
 refine h ?_ _ (hp a hF)
 rw [<- mS]
 exact hcl.set h1
theorem xI {X H F:HL} {w:World} (hRel:Rel (X++(H++F)) w):Rel (H++(X++F)) w:=hRel.perm (by
 rw [<- List.append_assoc,<- List.append_assoc]
 exact List.Perm.append_right F List.perm_append_comm)
theorem iZ {Rr:HL} (hs:Region.noSelect ops=true) (hRd:∀ x ∈ Rd,x ∈ H) (hR:∀ y ∈ Rr,y ∈ F):∀ (is:List Nat) (b b':List Bool) (L L':FL) (s s':SS),rJ P 0 N ops.toList hards Rd is b L s=some (b',L',s') ->
  s.h=H -> s.r=Rr -> s.wr=false -> (∀ p ∈ s'.eq,p.1=p.2) -> (∀ p ∈ s'.ob,p) ->
  TD P N D F w0 ops hards Rd fuel b' L' H Q -> TD P N D F w0 ops hards Rd (fuel+is.length) b L H Q
 | [],b,b',L,L',s,s',h,_,_,_,_,_,hk=>by
  rw [rJ] at h;cases h;exact hk
 | i :: is,b,b',L,L',s,s',h,hh,hr,hw,heq,hob,hk=>by
  rw [rJ] at h
  split at h
  case h_2=>cases h
  rename_i o hokw ho
  have ho':ops[i]?=some o:=by simpa using ho
  split at h
  ·cases h
  ·rename_i s1 hwl
   split at h
   case h_2=>cases h
   rename_i L1 hp
   obtain ⟨a1,a2,a3,a4⟩:=bI hwl
   obtain ⟨b1,b2⟩:=ik is _ _ _ _ _ _ h
   have hws:∀ a,Fm N D L a -> Region.wanted o (yielded ops a.tmps)=false /\ s1.h=s.h /\ s1.cnt=s.cnt:=λ a hF=>ci hwl hF (λ p hp=>hob p (b2 p hp))
   refine λ hcl a hF=>?_
   obtain ⟨c1,c2,c3⟩:=hws a hF
   exact (uL (v:=undef) hs hokw ho' (λ a hF=>hF.put hp) (λ a hF=>.inr ⟨(hws a hF).1,rfl⟩) hRd (.inr λ a hF H' _=>.inr ⟨(hws a hF).1,rfl⟩)
    (iZ hs hRd hR is _ b' L1 L' s1 s' h (by rw [c2];exact hh) (by rw [a3];exact hr) (a4.trans hw) heq hob hk):TD P N D F w0 ops hards Rd (fuel+is.length+1) b L H Q) hcl a hF
  ·rename_i s1 hwl
   split at h
   ·cases h
   rename_i hok
   obtain ⟨a1,a2,a3,a4⟩:=bI hwl
   split at h
   ·rename_i hokv
    split at h
    case h_2=>cases h
    rename_i v s2 he
    split at h
    case h_2=>cases h
    rename_i L1 hp
    obtain ⟨d1,d2,d3,d4⟩:=dk he
    obtain ⟨b1,b2⟩:=ik is _ _ _ _ _ _ h
    have hws:∀ a,Fm N D L a -> Region.wanted o (yielded ops a.tmps)=true /\ s1.h=s.h /\ s1.cnt=s.cnt:=λ a hF=>ci hwl hF (λ p hp=>hob p (b2 p (d2 p hp)))
    refine λ hcl a hF=>?_
    obtain ⟨c1,c2,c3⟩:=hws a hF
    have hro:=Mc he (a4.trans hw)
    refine (uL (v:=v) hs hokw ho' (λ a hF=>hF.put hp) (λ a hF'=>.inl ⟨(hws a hF').1,λ X w hRel hB=>?_⟩) hRd (.inl hokv)
     (iZ hs hRd hR is _ b' L1 L' s2 s' h (by rw [hro,c2];exact hh) (by rw [d3,a3];exact hr) (d4.trans (a4.trans hw)) heq hob hk):TD P N D F w0 ops hards Rd (fuel+is.length+1) b L H Q) hcl a hF
    have hRel':=xI hRel
    have hsh:s1.h=H:=by rw [c2];exact hh
    obtain ⟨w1,e1,e2,e3,e4,e5⟩:=gi (w:=w) (F:=X++F) he (λ p hp=>heq p (b1 p hp)) (λ p hp=>hob p (b2 p hp)) (by rw [hsh];exact hRel') (by rw [a3,hr];exact λ y hy=>List.mem_append_right _ (hR y hy)) (λ e=>by rw [a4,hw] at e;cases e)
    obtain rfl:=e5 (a4.trans hw)
    unfold d7
    rw [hF'.exec hok,e1]
    exact ⟨rfl,hRel,hB⟩
   ·split at h
    case h_2=>cases h
    rename_i v s2 he
    split at h
    case h_2=>cases h
    rename_i L1 hp
    obtain ⟨d1,d2,d3,d4⟩:=dk he
    obtain ⟨b1,b2⟩:=ik is _ _ _ _ _ _ h
    have hws:∀ a,Fm N D L a -> Region.wanted o (yielded ops a.tmps)=true /\ s1.h=s.h /\ s1.cnt=s.cnt:=λ a hF=>ci hwl hF (λ p hp=>hob p (b2 p (d2 p hp)))
    have hvo:∀ a,Fm N D L a -> ∀ H',(∀ x ∈ Rd,x ∈ H') -> VO P ops F w0 o v a H':=λ a hF' H' hin=>.inl ⟨(hws a hF').1,λ X w hRel hB=>by
     obtain ⟨w1,e1,e2,e3,e4,e5⟩:=gi (w:=w) (F:=X++(H'++F)) he (λ p hp=>heq p (b1 p hp)) (λ p hp=>hob p (b2 p hp)) hRel (λ y hy=>by
      rcases List.mem_append.1 hy with hy | hy
      ·exact List.mem_append_right _ (List.mem_append_left _ (hin y hy))
      ·exact List.mem_append_right _ (List.mem_append_right _ (hR y (by rw [<- hr,<- a3];exact hy)))) (λ e=>by rw [a4,hw] at e;cases e)
     obtain rfl:=e5 (a4.trans hw)
     unfold d7
     rw [hF'.exec hok,e1]
     exact ⟨rfl,hRel,hB⟩⟩
    refine λ hcl a hF=>?_
    obtain ⟨c1,c2,c3⟩:=hws a hF
    exact (uL (v:=v) hs hokw ho' (λ a hF=>hF.put hp) (λ a hF'=>hvo a hF' H hRd) hRd (.inr hvo)
     (iZ hs hRd hR is _ b' L1 L' _ s' h (by rw [<- hh,<- c2]) (by rw [<- hr,<- a3]) (d4.trans (a4.trans hw)) heq hob hk):TD P N D F w0 ops hards Rd (fuel+is.length+1) b L H Q) hcl a hF
theorem pW {H Rd:HL} (ix:List Nat) (h:ix.filterMap (H[·]?)=Rd):∀ x ∈ Rd,x ∈ H:=by
 subst h
 intro x hx
 obtain ⟨i,_,hi⟩:=List.mem_filterMap.1 hx
 exact List.mem_of_getElem? hi
theorem TD.all (rs:List Nat) (hr:jc ops.toList listed=rs) (hne:rs ≠ []) (fuel':Nat) (hf:fuel=fuel'+1)
  (h:∀ i ∈ rs,∀ a,Fm N D L a -> Closed ops ⟨br listed i true⟩ -> OPJ P ops F w0 hards Rd i a H (JJ P ops Q F w0 hards Rd fuel' ⟨br listed i true⟩)):TD P N D F w0 ops hards Rd fuel listed L H Q:=by
 subst hf
 intro hcl a hF
 have hr':=(k9 ops listed).trans hr
 refine ⟨λ e=>absurd (hr'.symm.trans e) hne,λ i hi=>?_⟩
 rw [mS]
 refine h i (hr' ▸ hi) a hF ?_
 rw [<- mS]
 exact hcl.set hi
theorem xJ {i:Nat} {R:HL} {hints:List Hint} {dst:Option Tmp} {f:FuncId} {args:Array Value} {H1:HL} {E:List Nat} {Ob:List Prop} {o:Oper} (ho:ops.toList[i]?=some o) {Hp Hr:HL} {Rv:Value -> HL -> Prop}
  (h:∀ n0,mR P n0 N ops.toList i L H R hints=some (dst,f,args,H1,E,E,Ob)) (hR:∀ y ∈ R,y ∈ F) (hob:AllP Ob) (hperm:(Hp++Hr).Perm H1) (hc:Sp P f args Hp (Hr++F) Rv) (a:Act) (hF:Fm N D L a) :
  Region.wanted o (yielded ops a.tmps)=true /\ ∀ w,Rel (H++F) w -> Below 0 w0 w -> d7 P o a w λ u w'=>∃ H',Rv u H' /\ Rel ((H'++Hr)++F) w' /\ Below 0 w w':=by
 have key:∀ n0,∃ s s',iX ops.toList o L ⟨H,R,hints,0,[],[],true⟩=some (true,s) /\ ii o.op L=true /\ ev P n0 o (iT L) s=some (.enter f args,s') /\ s'.h=H1 /\ s'.eq.map (·.1)=E /\ s'.eq.map (·.2)=E /\ s'.ob=Ob:=λ n0=>by
  obtain ⟨o',s,s',ho',hwl,hok,hev,_,hh,e1,e2,e3⟩:=ij (h n0)
  obtain rfl:o'=o:=Option.some.inj (ho'.symm.trans ho)
  exact ⟨s,s',hwl,hok,hev,hh,e1,e2,e3⟩
 obtain ⟨s,s',hwl,hok,hev,hh,e1,e2,e3⟩:=key 0
 obtain ⟨d1,d2,d3,d4⟩:=dk hev
 refine ⟨(ci hwl hF (λ p hp=>AllP.mem hob p (by rw [<- e3];exact d2 p hp))).1,λ w hRel hB=>?_⟩
 obtain ⟨s,s',hwl,hok,hev,hh,e1,e2,e3⟩:=key w.heap.size
 obtain ⟨a1,a2,a3,a4⟩:=bI hwl
 obtain ⟨d1,d2,d3,d4⟩:=dk hev
 have hobs:∀ p ∈ s'.ob,p:=by rw [e3];exact AllP.mem hob
 obtain ⟨c1,c2,c3⟩:=ci hwl hF (λ p hp=>hobs p (d2 p hp))
 obtain ⟨w1,r1,r2,r3,r4,r5⟩:=gi (w:=w) (F:=F) hev (fF e1 e2) hobs (by rw [c2];exact hRel) (by rw [a3];exact hR) (λ _=>by rw [c3];rfl)
 unfold d7
 rw [hF.exec hok,r1]
 rw [hh] at r2
 refine (hc w1 (by rw [<- List.append_assoc];exact r2.perm (hperm.append_right F))).mono ?_
 rintro e w2 ⟨v,H',rfl,hv,hR2,hB2⟩
 exact ⟨H',hv,by rw [List.append_assoc];exact hR2,r3.trans hB2⟩
theorem TD.one (i:Nat) (hr:jc ops.toList listed=[i]) (fuel':Nat) (hf:fuel=fuel'+1)
  (h:∀ a,Fm N D L a -> Closed ops ⟨br listed i true⟩ -> OPJ P ops F w0 hards Rd i a H (JJ P ops Q F w0 hards Rd fuel' ⟨br listed i true⟩)):TD P N D F w0 ops hards Rd fuel listed L H Q :=
 TD.all [i] hr (by simp) fuel' hf λ j hj a hF hcl=>by
  obtain rfl:j=i:=by simpa using hj
  exact h a hF hcl
theorem OPJ.perm {hards:List Nat} {Rd:HL} {i:Nat} {a:Act} {H H':HL} {K K':Act -> HL -> Prop} (hK:∀ a H1 H2,H1.Perm H2 -> K a H1 -> K' a H2) (hp:H.Perm H') (h:OPJ P ops F w0 hards Rd i a H K):OPJ P ops F w0 hards Rd i a H' K':=by
 unfold OPJ at h ⊢
 cases ho:ops[i]? with
 | none=>rw [ho] at h;exact h
 | some o =>
  rw [ho] at h
  simp only at h ⊢
  split
  ·rename_i hw
   rw [if_pos hw] at h
   intro w hR hB
   refine d8 (h w (hR.perm (hp.append_right F)) hB) ?_
   rintro u w' ⟨H1,⟨s1,s2⟩,k1,k2,k3⟩
   by_cases hi:i ∈ hards
   ·exact ⟨H1,⟨λ e=>absurd hi e,s2⟩,hK _ _ _ (List.Perm.refl _) k1,k2,k3⟩
   ·obtain ⟨X,rfl⟩:=s1 hi
    have hpx:(X++H).Perm (X++H'):=hp.append_left X
    exact ⟨X++H',⟨λ _=>⟨X,rfl⟩,λ e=>absurd e hi⟩,hK _ _ _ hpx k1,k2.perm (hpx.symm.append_right F),k3⟩
  ·rename_i hw
   rw [if_neg hw] at h
   exact hK _ _ _ hp h
theorem JJ.perm {hards:List Nat} {Rd:HL}:∀ (fuel:Nat) (listed:Array Bool) (a:Act) (H H':HL),H.Perm H' -> JJ P ops Q F w0 hards Rd fuel listed a H -> JJ P ops Q F w0 hards Rd fuel listed a H'
 | 0,listed,a,H,H',hp,h=>⟨h.1,λ w hR hB=>h.2 w (hR.perm (hp.append_right F)) hB⟩
 | fuel+1,listed,a,H,H',hp,h=>⟨λ e w hR hB=>h.1 e w (hR.perm (hp.append_right F)) hB,λ i hi=>OPJ.perm (λ a H1 H2 hp h=>JJ.perm fuel _ a H1 H2 hp h) hp (h.2 i hi)⟩
theorem Kk (i j:Nat) (hr:jc ops.toList listed=[i,j]) (fuel':Nat) (hf:fuel=fuel'+1)
  (h1:∀ a,Fm N D L a -> Closed ops ⟨br listed i true⟩ -> OPJ P ops F w0 hards Rd i a H (JJ P ops Q F w0 hards Rd fuel' ⟨br listed i true⟩))
  (h2:∀ a,Fm N D L a -> Closed ops ⟨br listed j true⟩ -> OPJ P ops F w0 hards Rd j a H (JJ P ops Q F w0 hards Rd fuel' ⟨br listed j true⟩)):TD P N D F w0 ops hards Rd fuel listed L H Q :=
 TD.all [i,j] hr (by simp) fuel' hf λ m hm a hF hcl=>by
  have:m=i \/ m=j:=by simpa using hm
  rcases this with rfl | rfl
  ·exact h1 a hF hcl
  ·exact h2 a hF hcl
end
end Go.Proofs.YtobflkidpfkcaaaGreatDoor
