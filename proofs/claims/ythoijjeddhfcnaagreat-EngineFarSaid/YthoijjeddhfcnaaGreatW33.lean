import Derived.Test.YthoijjeddhfcnaaGreatW32
set_option maxHeartbeats 4000000
set_option maxRecDepth 100000
set_option linter.unusedSimpArgs false
set_option linter.unusedVariables false
namespace Go.Proofs.YthoijjeddhfcnaaGreat
open Go.RowKit
inductive TgR (ν:Nu):Target -> Target -> Prop
  | fn {f f':Fn} {c c':Array Value}:FnR ν f f' -> LR ν c.toList c'.toList -> TgR ν (.fn f c) (.fn f' c')
  | coll {h b K:Nat}:ν h=some (b,K) -> TgR ν (.collected h) (.collected b)
structure DR (ν:Nu) (d d':Deferred):Prop where
  t:TgR ν d.target d'.target
  a:LR ν d.args.toList d'.args.toList
def AOk (P:Program) (ν:Nu) (F:HL) (n:Nat) (s:Sem Next) (w:World):AN -> Prop
  | .val v H' n'=>∃ ν' v' w' r,s.run P w=.ok r w' /\ (r=.value v' \/ (r=.skip /\ v'=undef)) /\ VRi ν' v v' /\ Ext ν ν' n n' /\ HR ν' H' F w' /\ Below 0 w w'
  | .ent f args=>∃ args',s.run P w=.ok (.enter f ⟨args'⟩) w /\ LR ν args args'
  | .rnd l args=>∃ b K args',ν l=some (b,K) /\ LR ν args args' /\ s.run P w=(Instr.yield b ⟨args'⟩).run P w
  | .dfr d=>∃ d',s.run P w=.ok (.defer d') w /\ DR ν d d'
  | .rcv=>s.run P w=.ok .recover w
section ap
variable {ν ν':Nu} {P:Program} {G N:Nat} {T T':Tr Value} {a:Act} {H H':AH} {F:HL} {w w':World}
theorem TgR.mono {t t':Target} (h:TgR ν t t') (hl:ν.Le ν'):TgR ν' t t':=by
  cases h with
  | fn h1 h2=>exact .fn (h1.mono hl) (h2.mono hl)
  | coll h=>exact .coll (hl _ _ h)
theorem DR.mono {d d':Deferred} (h:DR ν d d') (hl:ν.Le ν'):DR ν' d d':=⟨h.t.mono hl,h.a.mono hl⟩
theorem func_inv {fn:Fn} {f c:Array Value} {v':Value} (h:VRi ν (.func fn f c) v'):∃ fn' f' c',v'=.func fn' f' c' /\ FnR ν fn fn' /\ LR ν f.toList f'.toList /\ LR ν c.toList c'.toList:=by
  cases h with
  | atom _ h=>simp [atomV] at h
  | func h1 h2 h3 h4 h5=>exact ⟨_,_,_,rfl,h1,.of_arr h2 h3,.of_arr h4 h5⟩
theorem copyV_ok {t u ty el:TypeId} {n:Nat} {x x' y y':Value} {v:Value} {n':Nat} (hH:HR ν H F w) (ht:P.underlying t=some (.slice el)) (hx:VRi ν x x') (hy:VRi ν y y') (h:copyV P H n el x y=some (.val v H' n')) :
    Effi P ν F n (Builtin.copy_ #[t,u] ty #[x',y']) w v H' n':=by
  unfold copyV at h
  split at h
  case h_2=>cases h
  rename_i k hk
  split at h
  case h_2=>cases h
  rename_i ad dl cx b sl cc
  split at h
  case h_2=>cases h
  rename_i vs hsp hsrc
  split at h
  case h_2=>cases h
  rename_i H2 hp
  cases h
  cases hx with
  | atom _ h=>simp [atomV] at h
  | @slice hd bb K _ c' o _ hν hc =>
  have hy2:∃ b',y'=.slice b' sl (match y' with | .slice _ _ c=>c | _=>0) /\ ∀ c,VRi ν (.slice b (Nat.min sl dl) c) (.slice b' (Nat.min sl dl) c) \/ b ≠ none:=by
    cases hy with
    | atom _ h=>cases b with
      | none=>exact ⟨none,rfl,λ c=>.inl (.atom _ rfl)⟩
      | some _=>simp [atomV] at h
    | slice o n hν hc=>exact ⟨_,rfl,λ c=>.inr (by simp)⟩
  have hfc:∃ vs',LR ν vs vs' /\ (Builtin.firstCells k (Nat.min sl dl) y').run P w=.ok vs'.toArray w:=by
    have hyy:∃ yy,VRi ν (.slice b (Nat.min sl dl) cc) yy /\ (Builtin.firstCells k (Nat.min sl dl) y').run P w=(Builtin.firstCells k (Nat.min sl dl) yy).run P w:=by
      cases hy with
      | atom _ h=>cases b with
        | none=>exact ⟨.slice none (Nat.min sl dl) cc,.atom _ rfl,rfl⟩
        | some _=>simp [atomV] at h
      | slice o n hν hc=>exact ⟨_,.slice o _ hν hc,rfl⟩
    obtain ⟨yy,h1,h2⟩:=hyy
    obtain ⟨vs',q1,q2,q3,q4,q5⟩:=srcA_ok (u:=t) hH ht h1 hsrc
    exact ⟨vs',q1,by rw [h2];exact q5⟩
  obtain ⟨vs',hl,hfc⟩:=hfc
  obtain ⟨q1,q2,q3,q4,q5⟩:=putSeg_ok hH hν hl hp
  obtain ⟨b',hy3,-⟩:=hy2
  have hst:=run_storeCells_cells (P:=P) bb o vs' 0 w (by simpa using q1) (by simpa using q2) q3
  refine ⟨ν,.int .i64 ((Nat.min sl dl:Nat):Int),_,?_,.atom _ rfl,.refl _ _,q4,q5⟩
  have hlen:∀ W,(Builtin.lenOf y').run P W=.ok sl W:=λ W=>by rw [hy3];rfl
  have hs:=sizeT_run hk w
  unfold Builtin.copy_
  simp only [List.getElem?_toArray,List.getElem?_cons_zero,List.getElem?_cons_succ]
  rw [Sem.run_bind,und_run ht]
  simp only [Result.andThen_ok,Sem.run_bind,hlen,hs,hfc]
  simp only [Nat.add_zero] at hst
  rw [hst]
  rfl
theorem callFunc_run {f:FuncId} {args:Array Value} (h:hasB P f=true) (w:World):(callFunc f args).run P w=.ok (.enter f args) w:=by
  unfold hasB at h
  split at h
  · rename_i fn hf
    rw [Bool.and_eq_true] at h
    obtain ⟨h1,h2⟩:=h
    unfold callFunc
    rw [run_prog]
    simp only [hf]
    rw [if_neg (by simpa using h1),if_neg (by cases hb:fn.body <;> simp [hb] at h2 ⊢)]
    rfl
  · cases h
theorem resolve_fn {c:Call} {f:Operand} {ty:TypeId} {fn:Fn} {f1 c1:Array Value} {ρ:Operand -> Value} (hc:c.callee=.value f) (hf:ρ f=.func fn f1 c1) (w:World):(resolve ρ c ty).run P w=.ok { target:=.fn fn c1,args:=f1++c.args.map ρ } w:=by
  unfold resolve
  rw [hc]
  simp only [hf,Deferred.ofValue]
  rfl
theorem appA_val {n:Nat} {c:Call} {x:AN} (h:appA P H n c T=some x):∃ v H' n',x=.val v H' n':=by
  unfold appA appVi appU2 appIn appNew at h
  repeat' split at h
  all_goals first
    | (cases h;done)
    | (cases h;exact ⟨_,_,_,rfl⟩)
theorem copyA_val {n:Nat} {c:Call} {x:AN} (h:copyA P H n c T=some x):∃ v H' n',x=.val v H' n':=by
  unfold copyA copyV at h
  repeat' split at h
  all_goals first
    | (cases h;done)
    | (cases h;exact ⟨_,_,_,rfl⟩)
theorem eff_out {n n':Nat} {s:Sem Value} {s':Sem Next} {v:Value} (h:Effi P ν F n s w v H' n') (e:s'.run P w=(do pure (.value (<- s)):Sem Next).run P w):AOk P ν F n s' w (.val v H' n'):=by
  obtain ⟨ν',v',w',h1,h2,h3,h4,h5⟩:=h
  refine ⟨ν',v',w',.value v',?_,.inl rfl,h2,h3,h4,h5⟩
  rw [e,Sem.run_bind,h1]
  rfl
theorem methA_run {t:TypeId} {name:String} {f:FuncId} {v:Value} (h:methA P t name=some f) (w:World):(method (P.types.size+Made.depth) t v name).run P w=.ok (f,v) w:=by
  unfold methA at h
  split at h
  case h_2=>cases h
  rename_i i hi hpos
  split at h
  case h_2=>cases h
  rename_i m hm
  obtain ⟨k,hk⟩:∃ k,P.types.size+Made.depth=k+1:=⟨_,(Nat.succ_pred_eq_of_pos (blt_lt hpos)).symm⟩
  rw [hk]
  have hfol:m.path.toList=[] -> (follow m.path.toList t (.val v)).run P w=.ok (t,.val v) w:=λ e=>by rw [e];rfl
  split at h
  · rename_i g e hp hf hu
    cases h
    unfold method
    rw [Sem.run_bind,info_run hi]
    simp only [Result.andThen_ok,hm]
    rw [Sem.run_bind,hfol hp]
    simp only [Result.andThen_ok,hf]
    rw [Sem.run_bind]
    have:∀ wr,(receiverAt t (.val v) true wr).run P w=.ok v w:=λ wr=>by
      unfold receiverAt
      rw [Sem.run_bind,und_run hu]
      rfl
    rw [this]
    rfl
  · cases h
  · rename_i g d hnp hp hf hu
    cases h
    unfold method
    rw [Sem.run_bind,info_run hi]
    simp only [Result.andThen_ok,hm]
    rw [Sem.run_bind,hfol hp]
    simp only [Result.andThen_ok,hf]
    rw [Sem.run_bind]
    have:∀ wr,(receiverAt t (.val v) false wr).run P w=.ok v w:=λ wr=>by
      unfold receiverAt
      rw [Sem.run_bind,und_run hu]
      simp only [Result.andThen_ok]
      cases d <;> first | rfl | exact (hnp _ rfl).elim
    rw [this]
    rfl
  · cases h
theorem effV_ok {o:Oper} {n:Nat} {x:AN} (hH:HR ν H F w) (h:effV P o T H n=some x) {l:List Operand} (hl:opsI o.op=some l) (hok:OK ν T a l) (hn:∀ v H' n',x=.val v H' n' -> Fr ν n n'):AOk P ν F n (execOp a.eval o) w x:=by
  unfold effV at h
  split at h
  · rename_i t p y ho
    rw [ho] at hl;simp only [opsI,opsOf,Option.some.injEq] at hl;subst hl
    have hp:=hok p (by simp)
    split at h
    · rename_i ad e
      split at h
      · rename_i H2 hs
        cases h
        rw [e] at hp
        generalize hu:a.eval p=u at hp
        have hp2:=hp
        cases hp with
        | atom _ h=>simp [atomV] at h
        | ptr o h =>
          obtain ⟨w',q1,q2,q3⟩:=storeA_ok hH hp2 (hok y (by simp)) hs
          refine ⟨ν,undef,w',.skip,?_,.inr ⟨rfl,rfl⟩,VRi.undef,.refl _ _,q2,q3⟩
          simp [execOp,ho,Instr.storeAt,Instr.sureAddr,hu,Sem.run_bind,q1]
      · cases h
    · cases h
  · rename_i t m k y ho
    rw [ho] at hl;simp only [opsI,opsOf,Option.some.injEq] at hl;subst hl
    split at h
    · rename_i H2 hs
      cases h
      obtain ⟨hp,w',q1,q2,q3⟩:=updA_ok hH (hok m (by simp)) (hok y (by simp)) hs
      have hk:=(hok k (by simp)).plain_eq hp
      refine ⟨ν,undef,w',.skip,?_,.inr ⟨rfl,rfl⟩,VRi.undef,.refl _ _,q2,q3⟩
      simp [execOp,ho,hk,Sem.run_bind,q1]
    · cases h
  · rename_i t m k y ho
    rw [ho] at hl;simp only [opsI,opsOf,Option.some.injEq] at hl;subst hl
    split at h
    · rename_i H2 hs
      cases h
      obtain ⟨hp,w',q1,q2,q3⟩:=updA_ok hH (hok m (by simp)) (hok y (by simp)) hs
      have hk:=(hok k (by simp)).plain_eq hp
      refine ⟨ν,undef,w',.skip,?_,.inr ⟨rfl,rfl⟩,VRi.undef,.refl _ _,q2,q3⟩
      simp [execOp,ho,hk,Sem.run_bind,q1]
    · cases h
  · rename_i c ho
    split at h
    case h_2=>cases h
    rename_i f hc
    split at h
    case h_2=>cases h
    rename_i fn first captured e
    cases h
    rw [ho] at hl
    simp only [opsI,hc,Option.some.injEq] at hl
    subst hl
    have hf:=hok f (by simp)
    rw [e] at hf
    obtain ⟨fn',f',c',e',r1,r2,r3⟩:=func_inv hf
    have ha:=mapE_rel (l:=c.args.toList) (λ x hx=>hok x (List.mem_cons_of_mem _ hx))
    refine ⟨{ target:=.fn fn' c',args:=f'++c.args.map a.eval },?_,⟨.fn r1 r3,?_⟩⟩
    · unfold Go.execOp
      rw [ho]
      simp only
      rw [Sem.run_bind,resolve_fn hc e']
      rfl
    · simpa using r2.append ha
  · rename_i c ho
    split at h
    · rename_i f hc
      have hl2:l=f :: c.args.toList:=by
        rw [ho] at hl
        simp only [opsI,opsOf,hc,Option.some.injEq] at hl
        rw [<- hl];rfl
      split at h
      · rename_i x' hcal
        cases h
        subst hl2
        have hf:=hok f (by simp)
        have ha:=mapE_rel (l:=c.args.toList) (λ x hx=>hok x (List.mem_cons_of_mem _ hx))
        have hrun:∀ fn' f' c',a.eval f=.func fn' f' c' -> (execOp a.eval o).run P w=(invoke (.fn fn' c') (f'++c.args.map a.eval)).run P w:=λ fn' f' c' e'=>by
          unfold Go.execOp
          rw [ho]
          simp only
          rw [Sem.run_bind,resolve_fn hc e']
          rfl
        unfold calleeA at hcal
        split at hcal
        case h_2=>cases hcal
        rename_i fn first captured e
        rw [e] at hf
        obtain ⟨fn',f',c',e',r1,r2,r3⟩:=func_inv hf
        split at hcal
        · split at hcal
          · rename_i hb
            cases hcal
            cases r1
            refine ⟨f'.toList++(c.args.toList.map a.eval++c'.toList),?_,r2.append (ha.append r3)⟩
            rw [hrun _ _ _ e']
            show (callFunc _ (f'++c.args.map a.eval++c')).run P w=_
            rw [callFunc_run hb]
            congr 2
            apply Array.ext'
            simp
          · cases hcal
        · rename_i lp
          split at hcal
          · rename_i hfi
            cases hcal
            cases r1 with
            | @yield _ b K hν =>
            rw [hfi] at r2
            refine ⟨b,K,_,hν,ha,?_⟩
            rw [hrun _ _ _ e']
            have hf0:f'=#[]:=by
              apply Array.ext'
              generalize f'.toList=q at r2
              cases r2;rfl
            subst hf0
            show (Instr.yield b (#[]++c.args.map a.eval)).run P w=_
            congr 2
            apply Array.ext'
            simp
          · cases hcal
        · cases hcal
      · split at h
        · rename_i v hv
          cases h
          have hl3:opsOf o.op=some l:=by
            rw [ho] at hl ⊢
            exact hl
          obtain ⟨v',r,e⟩:=plainV_ok hv hl3 hok
          exact ⟨ν,v',w,_,e w,.inl rfl,r,.refl _ _,hH,Below.refl _ _⟩
        · cases h
    · rename_i b hc
      split at h
      · obtain ⟨v,H2,n2,rfl⟩:=appA_val h
        have hfr:=hn v H2 n2 rfl
        unfold appA at h
        split at h
        case h_2=>cases h
        rename_i cl x y t u
        simp only at hc
        subst hc
        split at h
        case h_2=>cases h
        rename_i el he hs
        have hl2:l=[x,y]:=by
          rw [ho] at hl
          simp only [opsI,opsOf,Option.some.injEq] at hl
          rw [<- hl];rfl
        subst hl2
        have hu:∃ e',P.underlying u=some (.slice e'):=by
          unfold isSl at hs
          split at hs
          · rename_i e1;exact ⟨_,e1⟩
          · cases hs
        obtain ⟨e',hu⟩:=hu
        have hr:∃ cs,(resolve a.eval ⟨.builtin .append,⟨[x,y]⟩,⟨[t,u]⟩⟩ o.type).run P w=.ok { target:=.builtin .append #[t,u] o.type cs,args:=#[a.eval x,a.eval y] } w:=by
          refine ⟨(⟨[x,y]⟩:Array Operand).map (λ | .const _=>true | _=>false),?_⟩
          unfold resolve
          have e:(⟨[x,y]⟩:Array Operand).map a.eval=#[a.eval x,a.eval y]:=by simp
          simp only [e]
          rfl
        obtain ⟨cs,hr⟩:=hr
        refine eff_out (appV_ok (ty:=o.type) hH (elemT_und he) hu (hok x (by simp)) (hok y (by simp)) hfr h) ?_
        unfold Go.execOp
        rw [ho]
        simp only
        rw [Sem.run_bind,hr]
        rfl
      · obtain ⟨v,H2,n2,rfl⟩:=copyA_val h
        unfold copyA at h
        split at h
        case h_2=>cases h
        rename_i cl x y t u
        simp only at hc
        subst hc
        split at h
        case h_2=>cases h
        rename_i el he
        have hl2:l=[x,y]:=by
          rw [ho] at hl
          simp only [opsI,opsOf,Option.some.injEq] at hl
          rw [<- hl];rfl
        subst hl2
        have hr:∃ cs,(resolve a.eval ⟨.builtin .copy,⟨[x,y]⟩,⟨[t,u]⟩⟩ o.type).run P w=.ok { target:=.builtin .copy #[t,u] o.type cs,args:=#[a.eval x,a.eval y] } w:=by
          refine ⟨(⟨[x,y]⟩:Array Operand).map (λ | .const _=>true | _=>false),?_⟩
          unfold resolve
          have e:(⟨[x,y]⟩:Array Operand).map a.eval=#[a.eval x,a.eval y]:=by simp
          simp only [e]
          rfl
        obtain ⟨cs,hr⟩:=hr
        refine eff_out (copyV_ok (u:=u) (ty:=o.type) hH (elemT_und he) (hok x (by simp)) (hok y (by simp)) h) ?_
        unfold Go.execOp
        rw [ho]
        simp only
        rw [Sem.run_bind,hr]
        rfl
      · cases h
        show (execOp a.eval o).run P w=_
        unfold Go.execOp
        rw [ho]
        simp only
        rw [Sem.run_bind]
        unfold resolve
        rw [hc]
        rfl
      · cases h
    · rename_i recv name hc
      have hl2:l=recv :: c.args.toList:=by
        rw [ho] at hl
        simp only [opsI,opsOf,hc,Option.some.injEq] at hl
        rw [<- hl];rfl
      subst hl2
      split at h
      case h_2=>cases h
      rename_i t v e
      split at h
      case h_2=>cases h
      rename_i f hf
      split at h
      case h_2=>cases h
      rename_i hB
      cases h
      have hr:=hok recv (by simp)
      rw [e] at hr
      have ha:=mapE_rel (l:=c.args.toList) (λ x hx=>hok x (List.mem_cons_of_mem _ hx))
      generalize hu:a.eval recv=u at hr
      cases hr with
      | atom _ h=>simp [atomV] at h
      | @iface _ v' _ hv =>
      refine ⟨v' :: c.args.toList.map a.eval,?_,.cons hv ha⟩
      unfold Go.execOp
      rw [ho]
      simp only
      rw [Sem.run_bind]
      have h1:(resolve a.eval c o.type).run P w=.ok { target:=.fn (.method name) #[],args:=#[.iface t v']++c.args.map a.eval } w:=by
        unfold resolve
        rw [hc]
        simp only [hu]
        rfl
      rw [h1]
      simp only [Result.andThen_ok]
      have h2:(invoke (.fn (.method name) #[]) (#[.iface t v']++c.args.map a.eval)).run P w=(callMethod (.iface t v') name (c.args.map a.eval)).run P w:=by
        unfold invoke
        have e1:(#[Value.iface t v']++c.args.map a.eval)[0]?=some (.iface t v'):=by rw [Array.getElem?_append_left (by simp)];rfl
        have e2:(#[Value.iface t v']++c.args.map a.eval).extract 1 (#[Value.iface t v']++c.args.map a.eval).size=c.args.map a.eval:=by
          apply Array.ext'
          simp
          rw [List.take_of_length_le (by simp)]
        simp only [e1,e2]
      rw [h2]
      unfold callMethod
      simp only
      rw [run_prog,Sem.run_bind,methA_run hf]
      simp only [Result.andThen_ok]
      rw [callFunc_run hB]
      congr 2
      apply Array.ext'
      simp
  · cases h
theorem opsI_of {o:Op} {l:List Operand} (h:opsI o=some l) (hd:∀ c,o ≠ .defer c):opsOf o=some l:=by
  cases o <;> first | exact h | exact (hd _ rfl).elim
end ap
def Glb (ν:Nu) (G:Nat):Prop:=∀ k,k < G -> ∃ K,ν k=some (k,K)
def RetP (ν:Nu) (v:Value) (n n':Nat) (H':AH) (F:HL) (w:World) (e:Ending) (w':World):Prop :=
  ∃ ν' v',e=.returned v' /\ VRi ν' v v' /\ Ext ν ν' n n' /\ HR ν' H' F w' /\ Below 0 w w'
inductive DsR (ν:Nu):List Deferred -> List Deferred -> Prop
  | nil:DsR ν [] []
  | cons {d d':Deferred} {l l':List Deferred}:DR ν d d' -> DsR ν l l' -> DsR ν (d :: l) (d' :: l')
inductive RR (ν:Nu):Option Nat -> Option Nat -> Prop
  | none:RR ν none none
  | some {l b K:Nat}:ν l=some (b,K) -> RR ν (some l) (some b)
def Ex.out:Ex -> Exit
  | .normal=>.normal
  | .exit id=>.exit id
  | .ret=>.ret
structure SR (ν:Nu) (G N:Nat) (s:St) (F:HL) (a:Act) (w:World):Prop where
  g:Glb ν G
  t:TRel ν N s.T a.tmps
  d:DsR ν s.D a.defers
  h:HR ν s.H F w
def LoopX (F:Fence) (n:Nat) (P:Program) (c:Code) (Q:Exit -> Act -> World -> Prop) (a:Act) (w:World):Prop :=
  ∀ (b:Frame) (k:List Item) (cs:List Frame),b.roundOf=F.round -> F.fn b.fn -> F.room (cs.length+1+n) ->
    ∃ e a' w',Q e a' w' /\ ArrivesIn (Machine.fenced P F) P (lone (b.atR a (.code c :: .inLoop c :: k)) cs w) b k cs e a' w'
theorem wpIn_loopX {F:Fence} {n:Nat} {P:Program} {c:Code} {Q:Exit -> Act -> World -> Prop} {a:Act} {w:World} (h:LoopX F n P c Q a w):(Code.loop c).wpIn F n P Q a w:=by
  intro b k cs hro hb hr
  obtain ⟨e,a',w',hq,harr⟩:=h b k cs hro hb hr
  exact ⟨e,a',w',hq,.of_steps (.one (fenced_calm hb hr rfl) stepR_loop) harr⟩
theorem loopX_of {F:Fence} {n:Nat} {P:Program} {c:Code} {Q:Exit -> Act -> World -> Prop} {a:Act} {w:World} (h:c.wpIn F n P (Exit.then (LoopX F n P c Q) Q) a w):LoopX F n P c Q a w:=by
  intro b k cs hro hb hr
  obtain ⟨e,a₁,w₁,hq,harr⟩:=h b (.inLoop c :: k) cs hro hb hr
  cases e with
  | normal =>
    obtain ⟨e₂,a₂,w₂,hq₂,harr₂⟩:=hq b k cs hro hb hr
    exact ⟨e₂,a₂,w₂,hq₂,.of_steps (StepsIn.trans harr (.one (fenced_calm hb hr rfl) stepR_inLoop)) harr₂⟩
  | exit id=>exact ⟨_,a₁,w₁,hq,.pass (x:=.inLoop c) rfl (λ _ _=>.inl (by simp)) harr⟩
  | goto l=>exact ⟨_,a₁,w₁,hq,.pass (x:=.inLoop c) rfl (λ _ _=>.inl (by simp)) harr⟩
  | ret=>exact ⟨_,a₁,w₁,hq,.pass (x:=.inLoop c) rfl (λ _ _=>.inl (by simp)) harr⟩
  | panic ch=>exact ⟨_,a₁,w₁,hq,.pass (x:=.inLoop c) rfl (λ _ _=>.inl (by simp)) harr⟩
  | outgrown=>exact ⟨_,a₁,w₁,hq,.pass (x:=.inLoop c) rfl (λ _ _=>.inl (by simp)) harr⟩
def TaskOk (P:Program) (G:Nat):Task -> Rs -> Prop
  | .fn f args H n,.fn v H' n'=>n <= n' /\ ∀ ν F w args',Glb ν G -> Fr ν n n' -> HR ν H F w -> LR ν args args' -> Calls P f ⟨args'⟩ w (RetP ν v n n' H' F w)
  | .rnd l T N as bo H n,.fn v H' n'=>n <= n' /\ ∀ ν F w b K tm f r',Glb ν G -> ν l=some (b,K) -> TRel ν N T tm -> Fr ν n n' -> HR ν H F w -> RoundIn (Wr r') 0 P b f tm as bo w (RetP ν v n n' H' F w)
  | .code r N c s,.cd e s'=>s.n <= s'.n /\ ∀ ν F a w r' Q,RR ν r r' -> SR ν G N s F a w -> Fr ν s.n s'.n -> (∀ ν' a' w',Ext ν ν' s.n s'.n -> SR ν' G N s' F a' w' -> Below 0 w w' -> Q e.out a' w') -> c.wpIn (Wr r') 0 P Q a w
  | .loop r N c s,.cd e s'=>s.n <= s'.n /\ ∀ ν F a w r' Q,RR ν r r' -> SR ν G N s F a w -> Fr ν s.n s'.n -> (∀ ν' a' w',Ext ν ν' s.n s'.n -> SR ν' G N s' F a' w' -> Below 0 w w' -> Q e.out a' w') -> LoopX (Wr r') 0 P c Q a w
  | .dfn f args H n,.fn v H' n'=>n <= n' /\ ∀ ν F w args',Glb ν G -> Fr ν n n' -> HR ν H F w -> LR ν args args' -> CallsDIn (Wr none) 0 P f ⟨args'⟩ .returning w (λ e u' w'=>u'=.returning /\ RetP ν v n n' H' F w e w')
  | _,_=>True
def IHok (P:Program) (G:Nat) (ih:Task -> Option Rs):Prop:=∀ t res,ih t=some res -> TaskOk P G t res
section ops
variable {ν ν':Nu} {P:Program} {G N:Nat} {T T':Tr Value} {a:Act} {H H':AH} {F:HL} {w w':World} {r r':Option Nat} {ih:Task -> Option Rs}
theorem Glb.mono (h:Glb ν G) (hl:ν.Le ν'):Glb ν' G:=λ k hk=>let ⟨K,e⟩:=h k hk;⟨K,hl _ _ e⟩
theorem DsR.mono {l l':List Deferred} (h:DsR ν l l') (hl:ν.Le ν'):DsR ν' l l':=by
  induction h with
  | nil=>exact .nil
  | cons h _ ih=>exact .cons (h.mono hl) ih
theorem RR.mono (h:RR ν r r') (hl:ν.Le ν'):RR ν' r r':=by
  cases h with
  | none=>exact .none
  | some h=>exact .some (hl _ _ h)
theorem HR.loop (h:HR ν H F w) {k:Nat} {st:LoopState} {pend:Option Code} {T:Tr Value} {N:Nat} {ps:Array Tmp} {as bo:Code} {d r K:Nat} (hk:hget H k=some (.loop st pend T N ps as bo d)) (hr:ν k=some (r,K)) :
    ∃ lp:Loop,w.heap[r]?=some (.loop lp) /\ lp.state=st /\ lp.pending=pend /\ TRel ν N T lp.tmps /\ lp.params=ps /\ lp.assign=as /\ lp.body=bo /\ ∃ K',ν d=some (lp.defers,K'):=by
  obtain ⟨r',K',o,h1,h2,h3⟩:=h.blk _ _ hk
  rw [hr] at h1
  cases h1
  unfold OR at h3
  split at h3
  · rename_i e1;cases e1
  · rename_i e1;cases e1
  · rename_i e1;cases e1;exact ⟨_,h2,h3⟩
  · rename_i e1;cases e1
  · exact h3.elim
theorem getLoop_run {l:Nat} {lp:Loop} (h:w.heap[l]?=some (.loop lp)):(Instr.getLoop l).run P w=.ok lp w:=by
  unfold Instr.getLoop
  rw [Sem.run_bind]
  have:(getObj l).run P w=.ok (.loop lp) w:=by
    unfold getObj
    rw [Sem.run.eq_def]
    simp only [h]
    rfl
  rw [this]
  rfl
theorem setPs_rel:∀ {ps:List Tmp} {vs vs':List Value} {T:Tr Value} {tm:Array Value},LR ν vs vs' -> TRel ν N T tm -> allLt N ps=true -> TRel ν N (setPs ps vs T) ((ps.zip vs').foldl (λ tmps (p:Tmp × Value)=>tmps.setIfInBounds p.1 p.2) tm)
  | [],vs,vs',T,tm,hl,ht,_=>by cases vs <;> exact ht
  | p :: ps,[],vs',T,tm,hl,ht,_=>by cases hl;exact ht
  | p :: ps,v :: vs,vs',T,tm,hl,ht,hlt=>by
    cases hl with
    | cons hv hl =>
      rw [allLt] at hlt
      split at hlt
      · rename_i hp
        have h2:=setPs_rel (ps:=ps) hl (ht.set (blt_lt hp) hv) hlt
        exact h2
      · cases hlt
theorem yield_run {b:Nat} {lp:Loop} {args:List Value} (h:w.heap[b]?=some (.loop lp)) (hs:args.length=lp.params.size) :
    (Instr.yield b ⟨args⟩).run P w=.ok (.round b lp.fn ((lp.params.toList.zip args).foldl (λ tmps (p:Tmp × Value)=>tmps.setIfInBounds p.1 p.2) lp.tmps) lp.assign lp.body) w:=by
  unfold Instr.yield
  rw [Sem.run_bind,getLoop_run h]
  simp only [Result.andThen_ok]
  rw [if_neg (by simp [hs])]
  have:(Array.foldl (λ (tmps:Array Value) (x:Tmp × Value)=>tmps.setIfInBounds x.1 x.2) lp.tmps (lp.params.zip ⟨args⟩))=((lp.params.toList.zip args).foldl (λ tmps (p:Tmp × Value)=>tmps.setIfInBounds p.1 p.2) lp.tmps):=by
    rw [<- Array.foldl_toList,Array.toList_zip]
  rw [<- this]
  rfl
def OpOk (P:Program) (ν:Nu) (F:HL) (n:Nat) (r r':Option Nat) (a:Act) (w:World) (o:Oper):OpR -> Prop
  | .val v H' n'=>Fr ν n n' -> ∀ (next:Act -> World -> Prop) (Q:Exit -> Act -> World -> Prop),(∀ ν' v' w',VRi ν' v v' -> Ext ν ν' n n' -> HR ν' H' F w' -> Below 0 w w' -> next (a.put o.dst v') w') -> o.wpIn (Wr r') 0 P a w next Q
  | .dfr d=>r=none /\ ∀ (next:Act -> World -> Prop) (Q:Exit -> Act -> World -> Prop),(∀ d',DR ν d d' -> next ({ a with defers:=d' :: a.defers }.put o.dst undef) w) -> o.wpIn (Wr r') 0 P a w next Q
theorem effV_dfr {o:Oper} {c:Call} {n:Nat} {x:AN} (ho:o.op=.defer c) (h:aop P G o T H n=some x):∃ d,x=.dfr d:=by
  unfold aop at h
  split at h
  · cases h
  split at h
  · cases h
  rw [ho] at h
  simp only [cls,effV,ho] at h
  split at h
  · split at h
    · cases h;exact ⟨_,rfl⟩
    · cases h
  · cases h
theorem aop_ok' {o:Oper} {n:Nat} {x:AN} (hok:∀ l,opsI o.op=some l -> aoks G l=true -> OK ν T a l) (hH:HR ν H F w) (h:aop P G o T H n=some x) (hn:∀ v H' n',x=.val v H' n' -> Fr ν n n'):AOk P ν F n (execOp a.eval o) w x:=by
  unfold aop at h
  split at h
  · cases h
  rename_i l hl
  split at h
  · cases h
  rename_i hk
  have hok:=hok l hl hk
  split at h
  · rename_i hc
    split at h
    · rename_i v hv
      cases h
      have hl':=opsI_of hl (λ c e=>by rw [e] at hc;cases hc)
      obtain ⟨v',r,e⟩:=pureV_ok hv hl' hok
      exact ⟨ν,v',w,_,e w,.inl rfl,r,.refl _ _,hH,Below.refl _ _⟩
    · cases h
  · rename_i hc
    split at h
    · rename_i v hv
      cases h
      have hl':=opsI_of hl (λ c e=>by rw [e] at hc;cases hc)
      obtain ⟨v',r,e⟩:=loadV_ok hH hv hl' hok
      exact ⟨ν,v',w,_,e,.inl rfl,r,.refl _ _,hH,Below.refl _ _⟩
    · cases h
  · rename_i hc
    split at h
    · rename_i b m hv
      cases h
      have hl':=opsI_of hl (λ c e=>by rw [e] at hc;cases hc)
      obtain ⟨h1,h2,o',h3,h4⟩:=newV_ok hv hl' hok
      have hnone:ν n=none:=hn _ _ _ rfl n (Nat.le_refl _) (by omega)
      exact ⟨ν.upd n w.heap.size 0,_,_,_,h4 w,.inl rfl,Mk.rel h2 Nu.upd_self,.upd,hH.new hnone (h3 0) h1 rfl,⟨rfl,rfl,rfl,by simp,λ k hk=>by omega⟩⟩
    · cases h
  · exact effV_ok hH h hl hok hn
theorem aop_le {o:Oper} {n n':Nat} {v:Value} (h:aop P G o T H n=some (.val v H' n')):n <= n':=by
  have key:effV P o T H n=some (.val v H' n') -> n <= n':=by
    intro h
    unfold effV calleeA appA copyA appVi copyV appU2 appIn appNew at h
    repeat' split at h
    all_goals first
      | (cases h;done)
      | (cases h;omega)
      | (rename_i hx;simp only [Option.some.injEq] at h;subst h;(repeat' (split at hx)) <;> first | (cases hx;done) | (cases hx;omega))
  unfold aop at h
  split at h
  · cases h
  split at h
  · cases h
  split at h
  · split at h
    · cases h;omega
    · cases h
  · split at h
    · cases h;omega
    · cases h
  · split at h
    · unfold newA at h;cases h;omega
    · cases h
  · exact key h
theorem stOp_ok (hih:IHok P G ih) {o:Oper} {n:Nat} {x:OpR} (hg:Glb ν G) (hr:RR ν r r') (hok:∀ l,opsI o.op=some l -> aoks G l=true -> OK ν T a l) (hH:HR ν H F w) (h:stOp P G ih r o T H n=some x):(∀ v H' n',x=.val v H' n' -> n <= n') /\ OpOk P ν F n r r' a w o x:=by
  have hA:∀ f,o.about P w a.eval=some f -> (Wr r').fn f:=λ _ _=>trivial
  unfold stOp at h
  split at h
  · cases h
  rename_i y hy
  have nd:(∀ d,y ≠ .dfr d) -> o.semAt (Wr r').round a.eval=execOp a.eval o:=λ hd=>Oper.semAt_eq _ _ _ λ c e=>by
    obtain ⟨d,hd'⟩:=effV_dfr e hy
    exact hd d hd'
  split at h
  · rename_i v H1 n1
    cases h
    refine ⟨λ v H' n' e=>by cases e;exact aop_le hy,λ hfr next Q hk=>⟨hA,?_⟩⟩
    obtain ⟨ν',v',w',q,h1,h2,h3,h4,h5,h6⟩:=aop_ok' hok hH hy (λ v H' n' e=>by cases e;exact hfr)
    rw [nd (λ d e=>by cases e),h1]
    rcases h2 with rfl | ⟨rfl,rfl⟩
    · rw [Oper.uponIn_value];exact hk _ _ _ h3 h4 h5 h6
    · rw [Oper.uponIn_skip];exact hk _ _ _ h3 h4 h5 h6
  · rename_i f args
    split at h
    · rename_i v H1 n1 hc
      cases h
      obtain ⟨hle,hcall⟩:=hih _ _ hc
      refine ⟨λ v H' n' e=>by cases e;exact hle,λ hfr next Q hk=>⟨hA,?_⟩⟩
      obtain ⟨args',h1,h2⟩:=aop_ok' hok hH hy (λ v H' n' e=>by cases e)
      rw [nd (λ d e=>by cases e),h1,Oper.uponIn_enter]
      refine ⟨λ h=>(by cases h),?_⟩
      refine Wr.calls ((hcall ν F w args' hg hfr hH h2).mono ?_)
      rintro e w2 ⟨ν',v',rfl,k1,k2,k3,k4⟩
      exact hk _ _ _ k1 k2 k3 k4
    · cases h
  · rename_i l args
    split at h
    case h_2=>cases h
    rename_i st pend T2 N' ps as bo d hb
    split at h
    case h_2=>cases h
    rename_i hsz hlt
    split at h
    case h_2=>cases h
    rename_i v H1 n1 hc
    cases h
    obtain ⟨hle,hcall⟩:=hih _ _ hc
    refine ⟨λ v H' n' e=>by cases e;exact hle,λ hfr next Q hk=>⟨hA,?_⟩⟩
    obtain ⟨b,K,args',hν,h1,h2⟩:=aop_ok' hok hH hy (λ v H' n' e=>by cases e)
    obtain ⟨lp,g1,g2,g3,g4,g5,g6,g7,g8⟩:=hH.loop hb hν
    have hlen:args'.length=lp.params.size:=by
      rw [g5,h1.length]
      rw [lenL_eq] at hsz
      exact Nat.eq_of_beq_eq_true hsz
    rw [nd (λ d e=>by cases e),h2,yield_run g1 hlen,Oper.uponIn_round]
    refine ⟨λ h=>(by cases h),?_⟩
    rw [g6,g7,g5]
    refine (hcall ν F w b K _ lp.fn r' hg hν (setPs_rel h1 g4 hlt) hfr hH).mono ?_
    rintro e w2 ⟨ν',v',rfl,k1,k2,k3,k4⟩
    exact hk _ _ _ k1 k2 k3 k4
  · rename_i d
    split at h
    · cases h
      cases hr
      refine ⟨λ v H' n' e=>(by cases e),rfl,λ next Q hk=>⟨hA,?_⟩⟩
      obtain ⟨d',h1,h2⟩:=aop_ok' hok hH hy (λ v H' n' e=>by cases e)
      have:o.semAt (Wr none).round a.eval=execOp a.eval o:=rfl
      rw [this,h1,Oper.uponIn_defer]
      exact hk _ h2
    · cases h
  · cases h
theorem wantA_ok {ops:Array Oper} {o:Oper} {b:Bool} (hT:TRel ν N T a.tmps) (h:wantA ops o T=some b):Region.wanted o (yielded ops a.tmps)=b:=by
  unfold wantA at h
  unfold Region.wanted
  split at h
  · rename_i hg
    rw [hg];cases h;rfl
  · rename_i j want hg
    rw [hg]
    simp only
    split at h
    case h_2=>cases h
    rename_i d hd
    have hy:yielded ops a.tmps j=match a.tmps[d]? with | some (.bool b)=>some b | _=>none:=by
      unfold yielded
      rw [hd]
      rfl
    have hv:(d < N /\ ∃ v',a.tmps[d]?=some v' /\ VRi ν (tget T d) v') \/ (a.tmps[d]?=none /\ tget T d=undef):=by
      rcases Nat.lt_or_ge d N with h1 | h1
      · exact .inl ⟨h1,hT.get d h1⟩
      · exact .inr ⟨Array.getElem?_eq_none (by rw [hT.size];exact h1),hT.out d h1⟩
    rw [hy]
    split at h
    · rename_i b' hb
      cases h
      rcases hv with ⟨-,v',e1,e2⟩ | ⟨e1,e2⟩
      · rw [hb] at e2
        rw [e2.plain_eq rfl] at e1
        rw [e1];simp
      · rw [hb] at e2;cases e2
    · rename_i vs hb
      cases h
      rcases hv with ⟨-,v',e1,e2⟩ | ⟨e1,e2⟩
      · rw [hb] at e2
        rw [e1]
        cases e2 with
        | atom _ h=>simp [atomV] at h
        | tuple _ _=>rfl
      · rw [e1];rfl
    · cases h
theorem SR.op {s:St} (h:SR ν G N s F a w) {o:Oper}:∀ l,opsI o.op=some l -> aoks G l=true -> OK ν s.T a l:=λ l _ hk =>
  (FE.mk h.t h.g).ok hk
theorem evOps_ok (hih:IHok P G ih) {ops:Array Oper}:∀ (rest:List Oper) (s s':St),evOps P G ih r N ops rest s=some s' -> s.n <= s'.n /\ ∀ ν F a w r' (Q:Exit -> Act -> World -> Prop),RR ν r r' -> SR ν G N s F a w -> Fr ν s.n s'.n ->
    (∀ ν' a' w',Ext ν ν' s.n s'.n -> SR ν' G N s' F a' w' -> Below 0 w w' -> Q .normal a' w') -> wpListIn (Wr r') 0 P ops Q rest a w
  | [],s,s',h=>by
    rw [evOps] at h
    cases h
    exact ⟨Nat.le_refl _,λ ν F a w r' Q hr hs hf hk=>hk ν a w (.refl _ _) hs (Below.refl _ _)⟩
  | o :: rest,s,s',h=>by
    rw [evOps] at h
    split at h
    · cases h
    · rename_i hw
      split at h
      case h_2=>cases h
      rename_i T1 hp
      obtain ⟨h1,h2⟩:=evOps_ok hih rest _ _ h
      refine ⟨h1,λ ν F a w r' Q hr hs hf hk=>?_⟩
      rw [wpListIn,if_neg (by rw [wantA_ok hs.t hw];simp)]
      refine ⟨λ _ _=>trivial,?_⟩
      exact h2 ν F _ w r' Q hr ⟨hs.g,hs.t.put VRi.undef hp,by rw [put_defers];exact hs.d,hs.h⟩ hf hk
    · rename_i hw
      split at h
      · cases h
      · rename_i v H1 n1 hst
        split at h
        case h_2=>cases h
        rename_i T1 hp
        obtain ⟨h1,h2⟩:=evOps_ok hih rest _ _ h
        simp only at h1 h2
        have hle:s.n <= n1:=by
          clear h2
          unfold stOp at hst
          split at hst
          · cases hst
          rename_i y hy
          split at hst
          · cases hst;exact aop_le hy
          · split at hst
            · rename_i hc;cases hst;exact (hih _ _ hc).1
            · cases hst
          · split at hst
            case h_2=>cases hst
            split at hst
            case h_2=>cases hst
            split at hst
            · rename_i hc;cases hst;exact (hih _ _ hc).1
            · cases hst
          · split at hst <;> cases hst
          · cases hst
        refine ⟨by omega,λ ν F a w r' Q hr hs hf hk=>?_⟩
        rw [wpListIn,if_pos (wantA_ok hs.t hw)]
        obtain ⟨-,h4⟩:=stOp_ok hih hs.g hr hs.op hs.h hst
        refine h4 (λ i hi1 hi2=>hf i hi1 (by omega)) _ _ (λ ν' v' w' k1 k2 k3 k4=>?_)
        have hsub:=k2.sub (λ i hi1 hi2=>hf i hi1 (by omega))
        exact h2 ν' F _ w' r' Q (hr.mono hsub) ⟨hs.g.mono hsub,(hs.t.mono hsub).put k1 hp,by rw [put_defers];exact hs.d.mono hsub,k3⟩ (k2.fr hf h1) (λ ν2 a2 w2 q1 q2 q3=>hk ν2 a2 w2 (k2.trans q1) q2 (k4.trans q3))
      · rename_i d hst
        split at h
        case h_2=>cases h
        rename_i T1 hp
        obtain ⟨h1,h2⟩:=evOps_ok hih rest _ _ h
        refine ⟨h1,λ ν F a w r' Q hr hs hf hk=>?_⟩
        rw [wpListIn,if_pos (wantA_ok hs.t hw)]
        obtain ⟨-,h3,h4⟩:=stOp_ok hih hs.g hr hs.op hs.h hst
        refine h4 _ _ (λ d' hd'=>?_)
        exact h2 ν F _ w r' Q hr ⟨hs.g,TRel.put (a:={ a with defers:=d' :: a.defers }) hs.t VRi.undef hp,by rw [put_defers];exact .cons hd' hs.d,hs.h⟩ hf hk
end ops
end Go.Proofs.YthoijjeddhfcnaaGreat
