import Derived.Test.YthoijjeddhfcnaaGreatDoorZ23
set_option maxHeartbeats 4000000
set_option maxRecDepth 100000
set_option linter.unusedSimpArgs false
set_option linter.unusedVariables false
namespace Go.Proofs.YthoijjeddhfcnaaGreatDoor
open Go.RowKit
inductive TgR(ν:Nu):Target -> Target -> Prop
 | fn {f f':Fn} {c c':Array Value}:FnR ν f f' -> LR ν c.toList c'.toList -> TgR ν (.fn f c) (.fn f' c')
 | coll {h b K:Nat}:ν h=some (b,K) -> TgR ν (.collected h) (.collected b)
structure DR(ν:Nu)(d d':Deferred):Prop where
 t:TgR ν d.target d'.target
 a:LR ν d.args.toList d'.args.toList
def O0(P:Program)(ν:Nu)(F:HL)(n:Nat)(s:Sem Next)(w:World):AN -> Prop
 | .val v H' n'=>∃ν' v' w' r,s.run P w=.ok r w' /\ (r=.value v' \/ (r=.skip /\ v'=undef)) /\ VRi ν' v v' /\ Ext ν ν' n n' /\ HR ν' H' F w' /\ Below 0 w w'
 | .ent f args=>∃iS,s.run P w=.ok (.enter f ⟨iS⟩) w /\ LR ν args iS
 | .rnd l args=>∃b K iS,ν l=some (b,K) /\ LR ν args iS /\ s.run P w=(Instr.yield b ⟨iS⟩).run P w
 | .dfr d=>∃d',s.run P w=.ok (.defer d') w /\ DR ν d d'
 | .rcv=>s.run P w=.ok .recover w
section ap
variable {ν ν':Nu} {P:Program} {G N:Nat} {T T':Tr Value} {a:Act} {H H':AH} {F:HL} {w w':World}
theorem TgR.mono{t t':Target}(h:TgR ν t t')(hl:ν.Le ν'):TgR ν' t t':=by
 cases h with
 | fn h1 h2=>exact .fn (h1.mono hl) (h2.mono hl)
 | coll h=>exact .coll (hl _ _ h)
theorem DR.mono{d d':Deferred}(h:DR ν d d')(hl:ν.Le ν'):DR ν' d d':=⟨h.t.mono hl,h.a.mono hl⟩
theorem qf{fn:Fn}{f c:Array Value}{v':Value}(h:VRi ν (.func fn f c) v'):∃fn' f' c',v'=.func fn' f' c' /\ FnR ν fn fn' /\ LR ν f.toList f'.toList /\ LR ν c.toList c'.toList:=by
 cases h with
 | atom _ h=>simp[cQ] at h
 | func h1 h2 h3 h4 h5=>exact⟨_,_,_,rfl,h1,.of_arr h2 h3,.of_arr h4 h5⟩
theorem Fy{t u ty el:TypeId}{n:Nat}{x x' y y':Value}{v:Value}{n':Nat}(hH:HR ν H F w)(ht:P.underlying t=some (.slice el))(hx:VRi ν x x')(hy:VRi ν y y')(h:vQ P H n el x y=some (.val v H' n')) :
  Effi P ν F n (Builtin.copy_ #[t,u] ty #[x',y']) w v H' n':=by
 unfold vQ at h
 split at h
 case h_2=>cases h
 rename_i k hk
 split at h
 case h_2=>cases h
 rename_i ad dl cx b sl cc
 split at h
 case h_2=>cases h
 rename_i vs Rb Ps
 split at h
 case h_2=>cases h
 rename_i H2 hp
 cases h
 cases hx with
 | atom _ h=>simp[cQ] at h
 | @slice hd bb K _ c' o _ hν hc =>
 have hy2:∃b',y'=.slice b' sl (match y' with | .slice _ _ c=>c|_=>0) /\ ∀c,VRi ν (.slice b (Nat.min sl dl) c) (.slice b' (Nat.min sl dl) c) \/ b≠none:=by
  cases hy with
  | atom _ h=>cases b with
   | none=>exact⟨none,rfl,λ c=>.inl (.atom _ rfl)⟩
   | some _=>simp[cQ] at h
  | slice o n hν hc=>exact⟨_,rfl,λ c=>.inr (by simp)⟩
 have WB:∃D_,LR ν vs D_ /\ (Builtin.firstCells k (Nat.min sl dl) y').run P w=.ok D_.toArray w:=by
  have hyy:∃yy,VRi ν (.slice b (Nat.min sl dl) cc) yy /\ (Builtin.firstCells k (Nat.min sl dl) y').run P w=(Builtin.firstCells k (Nat.min sl dl) yy).run P w:=by
   cases hy with
   | atom _ h=>cases b with
    | none=>exact⟨.slice none (Nat.min sl dl) cc,.atom _ rfl,rfl⟩
    | some _=>simp[cQ] at h
   | slice o n hν hc=>exact⟨_,.slice o _ hν hc,rfl⟩
  obtain⟨yy,h1,h2⟩:=hyy
  obtain⟨D_,q1,q2,q3,q4,q5⟩:=lr (u:=t) hH ht h1 Ps
  exact⟨D_,q1,by rw[h2];exact q5⟩
 obtain⟨D_,hl,WB⟩:=WB
 obtain⟨q1,q2,q3,q4,q5⟩:=nL hH hν hl hp
 obtain⟨b',hy3,-⟩:=hy2
 have iF:=run_storeCells_cells (P:=P) bb o D_ 0 w (by simpa using q1) (by simpa using q2) q3
 refine⟨ν,.int .i64 ((Nat.min sl dl:Nat):Int),_,?_,.atom _ rfl,.refl _ _,q4,q5⟩
 have hlen:∀W,(Builtin.lenOf y').run P W=.ok sl W:=λ W=>by rw[hy3];rfl
 have hs:=ez hk w
 unfold Builtin.copy_
 simp only[List.getElem?_toArray,List.getElem?_cons_zero,List.getElem?_cons_succ]
 rw[Sem.run_bind,bg ht]
 simp only[Result.andThen_ok,Sem.run_bind,hlen,hs,WB]
 simp only[Nat.add_zero] at iF
 rw[iF]
 rfl
theorem gN{f:FuncId}{args:Array Value}(h:pS P f=true)(w:World):(callFunc f args).run P w=.ok (.enter f args) w:=by
 unfold pS at h
 split at h
 ·rename_i fn hf
  rw[Bool.and_eq_true] at h
  obtain⟨h1,h2⟩:=h
  unfold callFunc
  rw[mE]
  simp only[hf]
  rw[if_neg (by simpa using h1),if_neg (by cases hb:fn.body <;> simp[hb] at h2 ⊢)]
  rfl
 ·cases h
theorem mr{c:Call}{f:Operand}{ty:TypeId}{fn:Fn}{f1 c1:Array Value}{ρ:Operand -> Value}(hc:c.callee=.value f)(hf:ρ f=.func fn f1 c1)(w:World):(resolve ρ c ty).run P w=.ok { target:=.fn fn c1,args:=f1++c.args.map ρ } w:=by
 unfold resolve
 rw[hc]
 simp only[hf,Deferred.ofValue]
 rfl
theorem Fz{n:Nat}{c:Call}{x:AN}(h:Fa P H n c T=some x):∃v H' n',x=.val v H' n':=by
 unfold Fa vO sa pR il at h
 repeat' split at h
 all_goals first
  | (cases h;done)
  | (cases h;exact⟨_,_,_,rfl⟩)
theorem Cn{n:Nat}{c:Call}{x:AN}(h:vR P H n c T=some x):∃v H' n',x=.val v H' n':=by
 unfold vR vQ at h
 repeat' split at h
 all_goals first
  | (cases h;done)
  | (cases h;exact⟨_,_,_,rfl⟩)
theorem zX{n n':Nat}{s:Sem Value}{s':Sem Next}{v:Value}(h:Effi P ν F n s w v H' n')(e:s'.run P w=(do pure (.value (<- s)):Sem Next).run P w):O0 P ν F n s' w (.val v H' n'):=by
 obtain⟨ν',v',w',h1,h2,h3,h4,h5⟩:=h
 refine⟨ν',v',w',.value v',?_,.inl rfl,h2,h3,h4,h5⟩
 rw[e,Sem.run_bind,h1]
 rfl
theorem Co{t:TypeId}{name:String}{f:FuncId}{v:Value}(h:Fb P t name=some f)(w:World):(method (P.types.size+Made.depth) t v name).run P w=.ok (f,v) w:=by
 unfold Fb at h
 split at h
 case h_2=>cases h
 rename_i i hi SH
 split at h
 case h_2=>cases h
 rename_i m hm
 obtain⟨k,hk⟩:∃k,P.types.size+Made.depth=k+1:=⟨_,(Nat.succ_pred_eq_of_pos (dU SH)).symm⟩
 rw[hk]
 have XE:m.path.toList=[] -> (follow m.path.toList t (.val v)).run P w=.ok (t,.val v) w:=λ e=>by rw[e];rfl
 split at h
 ·rename_i g e hp hf hu
  cases h
  unfold method
  rw[Sem.run_bind,ep hi]
  simp only[Result.andThen_ok,hm]
  rw[Sem.run_bind,XE hp]
  simp only[Result.andThen_ok,hf]
  rw[Sem.run_bind]
  have:∀wr,(receiverAt t (.val v) true wr).run P w=.ok v w:=λ wr=>by
   unfold receiverAt
   rw[Sem.run_bind,bg hu]
   rfl
  rw[this]
  rfl
 ·cases h
 ·rename_i g d hnp hp hf hu
  cases h
  unfold method
  rw[Sem.run_bind,ep hi]
  simp only[Result.andThen_ok,hm]
  rw[Sem.run_bind,XE hp]
  simp only[Result.andThen_ok,hf]
  rw[Sem.run_bind]
  have:∀wr,(receiverAt t (.val v) false wr).run P w=.ok v w:=λ wr=>by
   unfold receiverAt
   rw[Sem.run_bind,bg hu]
   simp only[Result.andThen_ok]
   cases d <;> first|rfl|exact(hnp _ rfl).elim
  rw[this]
  rfl
 ·cases h
theorem IJ{o:Oper}{n:Nat}{x:AN}(hH:HR ν H F w)(h:mh P o T H n=some x){l:List Operand}(hl:ik o.op=some l)(aT:OK ν T a l)(hn:∀v H' n',x=.val v H' n' -> Fr ν n n'):O0 P ν F n (execOp a.eval o) w x:=by
 unfold mh at h
 split at h
 ·rename_i t p y ho
  rw[ho] at hl;simp only[ik,cD,Option.some.injEq] at hl;subst hl
  have hp:=aT p (by simp)
  split at h
  ·rename_i ad e
   split at h
   ·rename_i H2 hs
    cases h
    rw[e] at hp
    generalize hu:a.eval p=u at hp
    have ZZ:=hp
    cases hp with
    | atom _ h=>simp[cQ] at h
    | ptr o h =>
     obtain⟨w',q1,q2,q3⟩:=Ck hH ZZ (aT y (by simp)) hs
     refine⟨ν,undef,w',.skip,?_,.inr ⟨rfl,rfl⟩,VRi.undef,.refl _ _,q2,q3⟩
     simp[execOp,ho,Instr.storeAt,Instr.sureAddr,hu,Sem.run_bind,q1]
   ·cases h
  ·cases h
 ·rename_i t m k y ho
  rw[ho] at hl;simp only[ik,cD,Option.some.injEq] at hl;subst hl
  split at h
  ·rename_i H2 hs
   cases h
   obtain⟨hp,w',q1,q2,q3⟩:=zW hH (aT m (by simp)) (aT y (by simp)) hs
   have hk:=(aT k (by simp)).plain_eq hp
   refine⟨ν,undef,w',.skip,?_,.inr ⟨rfl,rfl⟩,VRi.undef,.refl _ _,q2,q3⟩
   simp[execOp,ho,hk,Sem.run_bind,q1]
  ·cases h
 ·rename_i t m k y ho
  rw[ho] at hl;simp only[ik,cD,Option.some.injEq] at hl;subst hl
  split at h
  ·rename_i H2 hs
   cases h
   obtain⟨hp,w',q1,q2,q3⟩:=zW hH (aT m (by simp)) (aT y (by simp)) hs
   have hk:=(aT k (by simp)).plain_eq hp
   refine⟨ν,undef,w',.skip,?_,.inr ⟨rfl,rfl⟩,VRi.undef,.refl _ _,q2,q3⟩
   simp[execOp,ho,hk,Sem.run_bind,q1]
  ·cases h
 ·rename_i c ho
  split at h
  case h_2=>cases h
  rename_i f hc
  split at h
  case h_2=>cases h
  rename_i fn first captured e
  cases h
  rw[ho] at hl
  simp only[ik,hc,Option.some.injEq] at hl
  subst hl
  have hf:=aT f (by simp)
  rw[e] at hf
  obtain⟨fn',f',c',e',r1,r2,r3⟩:=qf hf
  have ha:=kM (l:=c.args.toList) (λ x hx=>aT x (List.mem_cons_of_mem _ hx))
  refine⟨{ target:=.fn fn' c',args:=f'++c.args.map a.eval },?_,⟨.fn r1 r3,?_⟩⟩
  ·unfold Go.execOp
   rw[ho]
   simp only
   rw[Sem.run_bind,mr hc e']
   rfl
  ·simpa using r2.append ha
 ·rename_i c ho
  split at h
  ·rename_i f hc
   have Qh:l=f::c.args.toList:=by
    rw[ho] at hl
    simp only[ik,cD,hc,Option.some.injEq] at hl
    rw[<- hl];rfl
   split at h
   ·rename_i x' PT
    cases h
    subst Qh
    have hf:=aT f (by simp)
    have ha:=kM (l:=c.args.toList) (λ x hx=>aT x (List.mem_cons_of_mem _ hx))
    have dO:∀fn' f' c',a.eval f=.func fn' f' c' -> (execOp a.eval o).run P w=(invoke (.fn fn' c') (f'++c.args.map a.eval)).run P w:=λ fn' f' c' e'=>by
     unfold Go.execOp
     rw[ho]
     simp only
     rw[Sem.run_bind,mr hc e']
     rfl
    unfold oW at PT
    split at PT
    case h_2=>cases PT
    rename_i fn first captured e
    rw[e] at hf
    obtain⟨fn',f',c',e',r1,r2,r3⟩:=qf hf
    split at PT
    ·split at PT
     ·rename_i hb
      cases PT
      cases r1
      refine⟨f'.toList++(c.args.toList.map a.eval++c'.toList),?_,r2.append (ha.append r3)⟩
      rw[dO _ _ _ e']
      show (callFunc _ (f'++c.args.map a.eval++c')).run P w=_
      rw[gN hb]
      congr 2
      apply Array.ext'
      simp
     ·cases PT
    ·rename_i lp
     split at PT
     ·rename_i UU
      cases PT
      cases r1 with
      | @yield _ b K hν =>
      rw[UU] at r2
      refine⟨b,K,_,hν,ha,?_⟩
      rw[dO _ _ _ e']
      have hf0:f'=#[]:=by
       apply Array.ext'
       generalize f'.toList=q at r2
       cases r2;rfl
      subst hf0
      show (Instr.yield b (#[]++c.args.map a.eval)).run P w=_
      congr 2
      apply Array.ext'
      simp
     ·cases PT
    ·cases PT
   ·split at h
    ·rename_i v hv
     cases h
     have RY:cD o.op=some l:=by
      rw[ho] at hl ⊢
      exact hl
     obtain⟨v',r,e⟩:=nJ hv RY aT
     exact⟨ν,v',w,_,e w,.inl rfl,r,.refl _ _,hH,Below.refl _ _⟩
    ·cases h
  ·rename_i b hc
   split at h
   ·obtain⟨v,H2,n2,rfl⟩:=Fz h
    have Rx:=hn v H2 n2 rfl
    unfold Fa at h
    split at h
    case h_2=>cases h
    rename_i cl x y t u
    simp only at hc
    subst hc
    split at h
    case h_2=>cases h
    rename_i el he hs
    have Qh:l=[x,y]:=by
     rw[ho] at hl
     simp only[ik,cD,Option.some.injEq] at hl
     rw[<- hl];rfl
    subst Qh
    have hu:∃e',P.underlying u=some (.slice e'):=by
     unfold Ni at hs
     split at hs
     ·rename_i e1;exact⟨_,e1⟩
     ·cases hs
    obtain⟨e',hu⟩:=hu
    have hr:∃cs,(resolve a.eval ⟨.builtin .append,⟨[x,y]⟩,⟨[t,u]⟩⟩ o.type).run P w=.ok { target:=.builtin .append #[t,u] o.type cs,args:=#[a.eval x,a.eval y] } w:=by
     refine⟨(⟨[x,y]⟩:Array Operand).map (λ | .const _=>true|_=>false),?_⟩
     unfold resolve
     have e:(⟨[x,y]⟩:Array Operand).map a.eval=#[a.eval x,a.eval y]:=by simp
     simp only[e]
     rfl
    obtain⟨cs,hr⟩:=hr
    refine zX (II (ty:=o.type) hH (lq he) hu (aT x (by simp)) (aT y (by simp)) Rx h) ?_
    unfold Go.execOp
    rw[ho]
    simp only
    rw[Sem.run_bind,hr]
    rfl
   ·obtain⟨v,H2,n2,rfl⟩:=Cn h
    unfold vR at h
    split at h
    case h_2=>cases h
    rename_i cl x y t u
    simp only at hc
    subst hc
    split at h
    case h_2=>cases h
    rename_i el he
    have Qh:l=[x,y]:=by
     rw[ho] at hl
     simp only[ik,cD,Option.some.injEq] at hl
     rw[<- hl];rfl
    subst Qh
    have hr:∃cs,(resolve a.eval ⟨.builtin .copy,⟨[x,y]⟩,⟨[t,u]⟩⟩ o.type).run P w=.ok { target:=.builtin .copy #[t,u] o.type cs,args:=#[a.eval x,a.eval y] } w:=by
     refine⟨(⟨[x,y]⟩:Array Operand).map (λ | .const _=>true|_=>false),?_⟩
     unfold resolve
     have e:(⟨[x,y]⟩:Array Operand).map a.eval=#[a.eval x,a.eval y]:=by simp
     simp only[e]
     rfl
    obtain⟨cs,hr⟩:=hr
    refine zX (Fy (u:=u) (ty:=o.type) hH (lq he) (aT x (by simp)) (aT y (by simp)) h) ?_
    unfold Go.execOp
    rw[ho]
    simp only
    rw[Sem.run_bind,hr]
    rfl
   ·cases h
    show (execOp a.eval o).run P w=_
    unfold Go.execOp
    rw[ho]
    simp only
    rw[Sem.run_bind]
    unfold resolve
    rw[hc]
    rfl
   ·cases h
  ·rename_i recv name hc
   have Qh:l=recv::c.args.toList:=by
    rw[ho] at hl
    simp only[ik,cD,hc,Option.some.injEq] at hl
    rw[<- hl];rfl
   subst Qh
   split at h
   case h_2=>cases h
   rename_i t v e
   split at h
   case h_2=>cases h
   rename_i f hf
   split at h
   case h_2=>cases h
   rename_i hB
   cases h
   have hr:=aT recv (by simp)
   rw[e] at hr
   have ha:=kM (l:=c.args.toList) (λ x hx=>aT x (List.mem_cons_of_mem _ hx))
   generalize hu:a.eval recv=u at hr
   cases hr with
   | atom _ h=>simp[cQ] at h
   | @iface _ v' _ hv =>
   refine⟨v'::c.args.toList.map a.eval,?_,.cons hv ha⟩
   unfold Go.execOp
   rw[ho]
   simp only
   rw[Sem.run_bind]
   have h1:(resolve a.eval c o.type).run P w=.ok { target:=.fn (.method name) #[],args:=#[.iface t v']++c.args.map a.eval } w:=by
    unfold resolve
    rw[hc]
    simp only[hu]
    rfl
   rw[h1]
   simp only[Result.andThen_ok]
   have h2:(invoke (.fn (.method name) #[]) (#[.iface t v']++c.args.map a.eval)).run P w=(callMethod (.iface t v') name (c.args.map a.eval)).run P w:=by
    unfold invoke
    have e1:(#[Value.iface t v']++c.args.map a.eval)[0]?=some (.iface t v'):=by rw[Array.getElem?_append_left (by simp)];rfl
    have e2:(#[Value.iface t v']++c.args.map a.eval).extract 1 (#[Value.iface t v']++c.args.map a.eval).size=c.args.map a.eval:=by
     apply Array.ext'
     simp
     rw[List.take_of_length_le (by simp)]
    simp only[e1,e2]
   rw[h2]
   unfold callMethod
   simp only
   rw[mE,Sem.run_bind,Co hf]
   simp only[Result.andThen_ok]
   rw[gN hB]
   congr 2
   apply Array.ext'
   simp
 ·cases h
theorem ls{o:Op}{l:List Operand}(h:ik o=some l)(hd:∀c,o ≠ .defer c):cD o=some l:=by
 cases o <;> first|exact h|exact(hd _ rfl).elim
end ap
def Glb(ν:Nu)(G:Nat):Prop:=∀k,k<G -> ∃K,ν k=some (k,K)
def FB(ν:Nu)(v:Value)(n n':Nat)(H':AH)(F:HL)(w:World)(e:Ending)(w':World):Prop :=
 ∃ν' v',e=.returned v' /\ VRi ν' v v' /\ Ext ν ν' n n' /\ HR ν' H' F w' /\ Below 0 w w'
inductive DsR(ν:Nu):List Deferred -> List Deferred -> Prop
 | nil:DsR ν [] []
 | cons {d d':Deferred} {l l':List Deferred}:DR ν d d' -> DsR ν l l' -> DsR ν (d::l) (d'::l')
inductive RR(ν:Nu):Option Nat -> Option Nat -> Prop
 | none:RR ν none none
 | some {l b K:Nat}:ν l=some (b,K) -> RR ν (some l) (some b)
def Ex.out:Ex -> Exit
 | .normal=>.normal
 | .exit id=>.exit id
 | .ret=>.ret
structure SR(ν:Nu)(G N:Nat)(s:St)(F:HL)(a:Act)(w:World):Prop where
 g:Glb ν G
 t:TRel ν N s.T a.tmps
 d:DsR ν s.D a.defers
 h:HR ν s.H F w
def zY(F:Fence)(n:Nat)(P:Program)(c:Code)(Q:Exit -> Act -> World -> Prop)(a:Act)(w:World):Prop :=
 ∀ (b:Frame) (k:List Item) (cs:List Frame),b.roundOf=F.round -> F.fn b.fn -> F.room (cs.length+1+n) ->
  ∃e a' w',Q e a' w' /\ ArrivesIn (Machine.fenced P F) P (lone (b.atR a (.code c :: .inLoop c::k)) cs w) b k cs e a' w'
theorem yD{F:Fence}{n:Nat}{P:Program}{c:Code}{Q:Exit -> Act -> World -> Prop}{a:Act}{w:World}(h:zY F n P c Q a w):(Code.loop c).wpIn F n P Q a w:=by
 intro b k cs PO hb hr
 obtain⟨e,a',w',hq,oF⟩:=h b k cs PO hb hr
 exact⟨e,a',w',hq,.of_steps (.one (fenced_calm hb hr rfl) stepR_loop) oF⟩
theorem wq{F:Fence}{n:Nat}{P:Program}{c:Code}{Q:Exit -> Act -> World -> Prop}{a:Act}{w:World}(h:c.wpIn F n P (Exit.then (zY F n P c Q) Q) a w):zY F n P c Q a w:=by
 intro b k cs PO hb hr
 obtain⟨e,a₁,w₁,hq,oF⟩:=h b (.inLoop c::k) cs PO hb hr
 cases e with
 | normal =>
  obtain⟨e₂,a₂,w₂,Q1,PI⟩:=hq b k cs PO hb hr
  exact⟨e₂,a₂,w₂,Q1,.of_steps (StepsIn.trans oF (.one (fenced_calm hb hr rfl) stepR_inLoop)) PI⟩
 | exit id=>exact⟨_,a₁,w₁,hq,.pass (x:=.inLoop c) rfl (λ _ _=>.inl (by simp)) oF⟩
 | goto l=>exact⟨_,a₁,w₁,hq,.pass (x:=.inLoop c) rfl (λ _ _=>.inl (by simp)) oF⟩
 | ret=>exact⟨_,a₁,w₁,hq,.pass (x:=.inLoop c) rfl (λ _ _=>.inl (by simp)) oF⟩
 | panic ch=>exact⟨_,a₁,w₁,hq,.pass (x:=.inLoop c) rfl (λ _ _=>.inl (by simp)) oF⟩
 | outgrown=>exact⟨_,a₁,w₁,hq,.pass (x:=.inLoop c) rfl (λ _ _=>.inl (by simp)) oF⟩
def jb(P:Program)(G:Nat):Task -> Rs -> Prop
 | .fn f args H n,.fn v H' n'=>n <= n' /\ ∀ν F w iS,Glb ν G -> Fr ν n n' -> HR ν H F w -> LR ν args iS -> Calls P f ⟨iS⟩ w (FB ν v n n' H' F w)
 | .rnd l T N as bo H n,.fn v H' n'=>n <= n' /\ ∀ν F w b K tm f r',Glb ν G -> ν l=some (b,K) -> TRel ν N T tm -> Fr ν n n' -> HR ν H F w -> RoundIn (Wr r') 0 P b f tm as bo w (FB ν v n n' H' F w)
 | .code r N c s,.cd e s'=>s.n <= s'.n /\ ∀ν F a w r' Q,RR ν r r' -> SR ν G N s F a w -> Fr ν s.n s'.n -> (∀ν' a' w',Ext ν ν' s.n s'.n -> SR ν' G N s' F a' w' -> Below 0 w w' -> Q e.out a' w') -> c.wpIn (Wr r') 0 P Q a w
 | .loop r N c s,.cd e s'=>s.n <= s'.n /\ ∀ν F a w r' Q,RR ν r r' -> SR ν G N s F a w -> Fr ν s.n s'.n -> (∀ν' a' w',Ext ν ν' s.n s'.n -> SR ν' G N s' F a' w' -> Below 0 w w' -> Q e.out a' w') -> zY (Wr r') 0 P c Q a w
 | .dfn f args H n,.fn v H' n'=>n <= n' /\ ∀ν F w iS,Glb ν G -> Fr ν n n' -> HR ν H F w -> LR ν args iS -> CallsDIn (Wr none) 0 P f ⟨iS⟩ .returning w (λ e u' w'=>u'=.returning /\ FB ν v n n' H' F w e w')
 | _,_=>True
def jZ(P:Program)(G:Nat)(ih:Task -> Option Rs):Prop:=∀t res,ih t=some res -> jb P G t res
section ops
variable {ν ν':Nu} {P:Program} {G N:Nat} {T T':Tr Value} {a:Act} {H H':AH} {F:HL} {w w':World} {r r':Option Nat} {ih:Task -> Option Rs}
theorem Glb.mono(h:Glb ν G)(hl:ν.Le ν'):Glb ν' G:=λ k hk=>let ⟨K,e⟩:=h k hk;⟨K,hl _ _ e⟩
theorem DsR.mono{l l':List Deferred}(h:DsR ν l l')(hl:ν.Le ν'):DsR ν' l l':=by
 induction h with
 | nil=>exact .nil
 | cons h _ ih=>exact .cons (h.mono hl) ih
theorem RR.mono(h:RR ν r r')(hl:ν.Le ν'):RR ν' r r':=by
 cases h with
 | none=>exact .none
 | some h=>exact .some (hl _ _ h)
theorem HR.loop(h:HR ν H F w){k:Nat}{st:LoopState}{pend:Option Code}{T:Tr Value}{N:Nat}{ps:Array Tmp}{as bo:Code}{d r K:Nat}(hk:cr H k=some (.loop st pend T N ps as bo d))(hr:ν k=some (r,K)) :
  ∃lp:Loop,w.heap[r]?=some (.loop lp) /\ lp.state=st /\ lp.pending=pend /\ TRel ν N T lp.tmps /\ lp.params=ps /\ lp.assign=as /\ lp.body=bo /\ ∃K',ν d=some (lp.defers,K'):=by
 obtain⟨r',K',o,h1,h2,h3⟩:=h.blk _ _ hk
 rw[hr] at h1
 cases h1
 unfold OR at h3
 split at h3
 ·rename_i e1;cases e1
 ·rename_i e1;cases e1
 ·rename_i e1;cases e1;exact⟨_,h2,h3⟩
 ·rename_i e1;cases e1
 ·exact h3.elim
theorem gv{l:Nat}{lp:Loop}(h:w.heap[l]?=some (.loop lp)):(Instr.getLoop l).run P w=.ok lp w:=by
 unfold Instr.getLoop
 rw[Sem.run_bind]
 have:(getObj l).run P w=.ok (.loop lp) w:=by
  unfold getObj
  rw[Sem.run.eq_def]
  simp only[h]
  rfl
 rw[this]
 rfl
theorem sy:∀ {ps:List Tmp} {vs D_:List Value} {T:Tr Value} {tm:Array Value},LR ν vs D_ -> TRel ν N T tm -> zR N ps=true -> TRel ν N (Fc ps vs T) ((ps.zip D_).foldl (λ tmps (p:Tmp × Value)=>tmps.setIfInBounds p.1 p.2) tm)
 | [],vs,D_,T,tm,hl,ht,_=>by cases vs <;> exact ht
 | p::ps,[],D_,T,tm,hl,ht,_=>by cases hl;exact ht
 | p::ps,v::vs,D_,T,tm,hl,ht,iN=>by
  cases hl with
  | cons hv hl =>
   rw[zR] at iN
   split at iN
   ·rename_i hp
    have h2:=sy (ps:=ps) hl (ht.set (dU hp) hv) iN
    exact h2
   ·cases iN
theorem Cp{b:Nat}{lp:Loop}{args:List Value}(h:w.heap[b]?=some (.loop lp))(hs:args.length=lp.params.size) :
  (Instr.yield b ⟨args⟩).run P w=.ok (.round b lp.fn ((lp.params.toList.zip args).foldl (λ tmps (p:Tmp × Value)=>tmps.setIfInBounds p.1 p.2) lp.tmps) lp.assign lp.body) w:=by
 unfold Instr.yield
 rw[Sem.run_bind,gv h]
 simp only[Result.andThen_ok]
 rw[if_neg (by simp[hs])]
 have:(Array.foldl (λ (tmps:Array Value) (x:Tmp × Value)=>tmps.setIfInBounds x.1 x.2) lp.tmps (lp.params.zip ⟨args⟩))=((lp.params.toList.zip args).foldl (λ tmps (p:Tmp × Value)=>tmps.setIfInBounds p.1 p.2) lp.tmps):=by
  rw[<- Array.foldl_toList,Array.toList_zip]
 rw[<- this]
 rfl
def O1(P:Program)(ν:Nu)(F:HL)(n:Nat)(r r':Option Nat)(a:Act)(w:World)(o:Oper):OpR -> Prop
 | .val v H' n'=>Fr ν n n' -> ∀ (next:Act -> World -> Prop) (Q:Exit -> Act -> World -> Prop),(∀ν' v' w',VRi ν' v v' -> Ext ν ν' n n' -> HR ν' H' F w' -> Below 0 w w' -> next (a.put o.dst v') w') -> o.wpIn (Wr r') 0 P a w next Q
 | .dfr d=>r=none /\ ∀ (next:Act -> World -> Prop) (Q:Exit -> Act -> World -> Prop),(∀d',DR ν d d' -> next ({ a with defers:=d'::a.defers }.put o.dst undef) w) -> o.wpIn (Wr r') 0 P a w next Q
theorem FC{o:Oper}{c:Call}{n:Nat}{x:AN}(ho:o.op=.defer c)(h:zQ P G o T H n=some x):∃d,x=.dfr d:=by
 unfold zQ at h
 split at h
 ·cases h
 split at h
 ·cases h
 rw[ho] at h
 simp only[qL,mh,ho] at h
 split at h
 ·split at h
  ·cases h;exact⟨_,rfl⟩
  ·cases h
 ·cases h
theorem lu{o:Oper}{n:Nat}{x:AN}(aT:∀l,ik o.op=some l -> qZ G l=true -> OK ν T a l)(hH:HR ν H F w)(h:zQ P G o T H n=some x)(hn:∀v H' n',x=.val v H' n' -> Fr ν n n'):O0 P ν F n (execOp a.eval o) w x:=by
 unfold zQ at h
 split at h
 ·cases h
 rename_i l hl
 split at h
 ·cases h
 rename_i hk
 have aT:=aT l hl hk
 split at h
 ·rename_i hc
  split at h
  ·rename_i v hv
   cases h
   have QS:=ls hl (λ c e=>by rw[e] at hc;cases hc)
   obtain⟨v',r,e⟩:=we hv QS aT
   exact⟨ν,v',w,_,e w,.inl rfl,r,.refl _ _,hH,Below.refl _ _⟩
  ·cases h
 ·rename_i hc
  split at h
  ·rename_i v hv
   cases h
   have QS:=ls hl (λ c e=>by rw[e] at hc;cases hc)
   obtain⟨v',r,e⟩:=wl hH hv QS aT
   exact⟨ν,v',w,_,e,.inl rfl,r,.refl _ _,hH,Below.refl _ _⟩
  ·cases h
 ·rename_i hc
  split at h
  ·rename_i b m hv
   cases h
   have QS:=ls hl (λ c e=>by rw[e] at hc;cases hc)
   obtain⟨h1,h2,o',h3,h4⟩:=zV hv QS aT
   have Xr:ν n=none:=hn _ _ _ rfl n (Nat.le_refl _) (by omega)
   exact⟨ν.upd n w.heap.size 0,_,_,_,h4 w,.inl rfl,Ft h2 cL,.upd,hH.new Xr (h3 0) h1 rfl,⟨rfl,rfl,rfl,by simp,λ k hk=>by omega⟩⟩
  ·cases h
 ·exact IJ hH h hl aT hn
theorem tN{o:Oper}{n n':Nat}{v:Value}(h:zQ P G o T H n=some (.val v H' n')):n <= n':=by
 have key:mh P o T H n=some (.val v H' n') -> n <= n':=by
  intro h
  unfold mh oW Fa vR vO vQ sa pR il at h
  repeat' split at h
  all_goals first
   | (cases h;done)
   | (cases h;omega)
   | (rename_i hx;simp only[Option.some.injEq] at h;subst h;(repeat' (split at hx)) <;> first|(cases hx;done)|(cases hx;omega))
 unfold zQ at h
 split at h
 ·cases h
 split at h
 ·cases h
 split at h
 ·split at h
  ·cases h;omega
  ·cases h
 ·split at h
  ·cases h;omega
  ·cases h
 ·split at h
  ·unfold Ln at h;cases h;omega
  ·cases h
 ·exact key h
theorem tP(q_:jZ P G ih){o:Oper}{n:Nat}{x:OpR}(hg:Glb ν G)(hr:RR ν r r')(aT:∀l,ik o.op=some l -> qZ G l=true -> OK ν T a l)(hH:HR ν H F w)(h:jx P G ih r o T H n=some x):(∀v H' n',x=.val v H' n' -> n <= n') /\ O1 P ν F n r r' a w o x:=by
 have hA:∀f,o.about P w a.eval=some f -> (Wr r').fn f:=λ _ _=>trivial
 unfold jx at h
 split at h
 ·cases h
 rename_i y hy
 have nd:(∀d,y ≠ .dfr d) -> o.semAt (Wr r').round a.eval=execOp a.eval o:=λ hd=>Oper.semAt_eq _ _ _ λ c e=>by
  obtain⟨d,QU⟩:=FC e hy
  exact hd d QU
 split at h
 ·rename_i v H1 n1
  cases h
  refine⟨λ v H' n' e=>by cases e;exact tN hy,λ Rx next Q hk=>⟨hA,?_⟩⟩
  obtain⟨ν',v',w',q,h1,h2,h3,h4,h5,h6⟩:=lu aT hH hy (λ v H' n' e=>by cases e;exact Rx)
  rw[nd (λ d e=>by cases e),h1]
  rcases h2 with rfl|⟨rfl,rfl⟩
  ·rw[Oper.uponIn_value];exact hk _ _ _ h3 h4 h5 h6
  ·rw[Oper.uponIn_skip];exact hk _ _ _ h3 h4 h5 h6
 ·rename_i f args
  split at h
  ·rename_i v H1 n1 hc
   cases h
   obtain⟨hle,Qk⟩:=q_ _ _ hc
   refine⟨λ v H' n' e=>by cases e;exact hle,λ Rx next Q hk=>⟨hA,?_⟩⟩
   obtain⟨iS,h1,h2⟩:=lu aT hH hy (λ v H' n' e=>by cases e)
   rw[nd (λ d e=>by cases e),h1,Oper.uponIn_enter]
   refine⟨λ h=>(by cases h),?_⟩
   refine jd ((Qk ν F w iS hg Rx hH h2).mono ?_)
   rintro e w2 ⟨ν',v',rfl,k1,k2,k3,k4⟩
   exact hk _ _ _ k1 k2 k3 k4
  ·cases h
 ·rename_i l args
  split at h
  case h_2=>cases h
  rename_i st pend T2 N' ps as bo d hb
  split at h
  case h_2=>cases h
  rename_i Pz iN
  split at h
  case h_2=>cases h
  rename_i v H1 n1 hc
  cases h
  obtain⟨hle,Qk⟩:=q_ _ _ hc
  refine⟨λ v H' n' e=>by cases e;exact hle,λ Rx next Q hk=>⟨hA,?_⟩⟩
  obtain⟨b,K,iS,hν,h1,h2⟩:=lu aT hH hy (λ v H' n' e=>by cases e)
  obtain⟨lp,g1,g2,g3,g4,g5,g6,g7,g8⟩:=hH.loop hb hν
  have hlen:iS.length=lp.params.size:=by
   rw[g5,h1.length]
   rw[eo] at Pz
   exact Nat.eq_of_beq_eq_true Pz
  rw[nd (λ d e=>by cases e),h2,Cp g1 hlen,Oper.uponIn_round]
  refine⟨λ h=>(by cases h),?_⟩
  rw[g6,g7,g5]
  refine(Qk ν F w b K _ lp.fn r' hg hν (sy h1 g4 iN) Rx hH).mono ?_
  rintro e w2 ⟨ν',v',rfl,k1,k2,k3,k4⟩
  exact hk _ _ _ k1 k2 k3 k4
 ·rename_i d
  split at h
  ·cases h
   cases hr
   refine⟨λ v H' n' e=>(by cases e),rfl,λ next Q hk=>⟨hA,?_⟩⟩
   obtain⟨d',h1,h2⟩:=lu aT hH hy (λ v H' n' e=>by cases e)
   have:o.semAt (Wr none).round a.eval=execOp a.eval o:=rfl
   rw[this,h1,Oper.uponIn_defer]
   exact hk _ h2
  ·cases h
 ·cases h
theorem jE{ops:Array Oper}{o:Oper}{b:Bool}(hT:TRel ν N T a.tmps)(h:eI ops o T=some b):Region.wanted o (yielded ops a.tmps)=b:=by
 unfold eI at h
 unfold Region.wanted
 split at h
 ·rename_i hg
  rw[hg];cases h;rfl
 ·rename_i j want hg
  rw[hg]
  simp only
  split at h
  case h_2=>cases h
  rename_i d hd
  have hy:yielded ops a.tmps j=match a.tmps[d]? with|some (.bool b)=>some b|_=>none:=by
   unfold yielded
   rw[hd]
   rfl
  have hv:(d<N /\ ∃v',a.tmps[d]?=some v' /\ VRi ν (da T d) v') \/ (a.tmps[d]?=none /\ da T d=undef):=by
   rcases Nat.lt_or_ge d N with h1|h1
   ·exact .inl ⟨h1,hT.get d h1⟩
   ·exact .inr ⟨Array.getElem?_eq_none (by rw[hT.size];exact h1),hT.out d h1⟩
  rw[hy]
  split at h
  ·rename_i b' hb
   cases h
   rcases hv with ⟨-,v',e1,e2⟩|⟨e1,e2⟩
   ·rw[hb] at e2
    rw[e2.plain_eq rfl] at e1
    rw[e1];simp
   ·rw[hb] at e2;cases e2
  ·rename_i vs hb
   cases h
   rcases hv with ⟨-,v',e1,e2⟩|⟨e1,e2⟩
   ·rw[hb] at e2
    rw[e1]
    cases e2 with
    | atom _ h=>simp[cQ] at h
    | tuple _ _=>rfl
   ·rw[e1];rfl
  ·cases h
theorem SR.op{s:St}(h:SR ν G N s F a w){o:Oper}:∀l,ik o.op=some l -> qZ G l=true -> OK ν s.T a l:=λ l _ hk =>
 (FE.mk h.t h.g).ok hk
theorem m8(q_:jZ P G ih){ops:Array Oper}:∀ (rest:List Oper) (s s':St),lN P G ih r N ops rest s=some s' -> s.n <= s'.n /\ ∀ν F a w r' (Q:Exit -> Act -> World -> Prop),RR ν r r' -> SR ν G N s F a w -> Fr ν s.n s'.n ->
  (∀ν' a' w',Ext ν ν' s.n s'.n -> SR ν' G N s' F a' w' -> Below 0 w w' -> Q .normal a' w') -> wpListIn (Wr r') 0 P ops Q rest a w
 | [],s,s',h=>by
  rw[lN] at h
  cases h
  exact⟨Nat.le_refl _,λ ν F a w r' Q hr hs hf hk=>hk ν a w (.refl _ _) hs (Below.refl _ _)⟩
 | o::rest,s,s',h=>by
  rw[lN] at h
  split at h
  ·cases h
  ·rename_i hw
   split at h
   case h_2=>cases h
   rename_i T1 hp
   obtain⟨h1,h2⟩:=m8 q_ rest _ _ h
   refine⟨h1,λ ν F a w r' Q hr hs hf hk=>?_⟩
   rw[wpListIn,if_neg (by rw[jE hs.t hw];simp)]
   refine⟨λ _ _=>trivial,?_⟩
   exact h2 ν F _ w r' Q hr ⟨hs.g,hs.t.put VRi.undef hp,by rw[fI];exact hs.d,hs.h⟩ hf hk
  ·rename_i hw
   split at h
   ·cases h
   ·rename_i v H1 n1 iF
    split at h
    case h_2=>cases h
    rename_i T1 hp
    obtain⟨h1,h2⟩:=m8 q_ rest _ _ h
    simp only at h1 h2
    have hle:s.n <= n1:=by
     clear h2
     unfold jx at iF
     split at iF
     ·cases iF
     rename_i y hy
     split at iF
     ·cases iF;exact tN hy
     ·split at iF
      ·rename_i hc;cases iF;exact(q_ _ _ hc).1
      ·cases iF
     ·split at iF
      case h_2=>cases iF
      split at iF
      case h_2=>cases iF
      split at iF
      ·rename_i hc;cases iF;exact(q_ _ _ hc).1
      ·cases iF
     ·split at iF <;> cases iF
     ·cases iF
    refine⟨by omega,λ ν F a w r' Q hr hs hf hk=>?_⟩
    rw[wpListIn,if_pos (jE hs.t hw)]
    obtain⟨-,h4⟩:=tP q_ hs.g hr hs.op hs.h iF
    refine h4 (λ i WA VL=>hf i WA (by omega)) _ _ (λ ν' v' w' k1 k2 k3 k4=>?_)
    have IS:=k2.sub (λ i WA VL=>hf i WA (by omega))
    exact h2 ν' F _ w' r' Q (hr.mono IS) ⟨hs.g.mono IS,(hs.t.mono IS).put k1 hp,by rw[fI];exact hs.d.mono IS,k3⟩ (k2.fr hf h1) (λ ν2 a2 w2 q1 q2 q3=>hk ν2 a2 w2 (k2.trans q1) q2 (k4.trans q3))
   ·rename_i d iF
    split at h
    case h_2=>cases h
    rename_i T1 hp
    obtain⟨h1,h2⟩:=m8 q_ rest _ _ h
    refine⟨h1,λ ν F a w r' Q hr hs hf hk=>?_⟩
    rw[wpListIn,if_pos (jE hs.t hw)]
    obtain⟨-,h3,h4⟩:=tP q_ hs.g hr hs.op hs.h iF
    refine h4 _ _ (λ d' QU=>?_)
    exact h2 ν F _ w r' Q hr ⟨hs.g,TRel.put (a:={ a with defers:=d'::a.defers }) hs.t VRi.undef hp,by rw[fI];exact .cons QU hs.d,hs.h⟩ hf hk
end ops
end Go.Proofs.YthoijjeddhfcnaaGreatDoor
