import Derived.TacticsIn
import Derived.RangeFuncIn
import Derived.OrdersIn
import Derived.Deep.AppendSrc
import Derived.Laws.AppendOwn
import Derived.LoopN
import Derived.RangeFuncSeq
import Derived.RangeFuncLeaves
import Derived.Shelf.Abstract
import Derived.Test.YtdppjkjbghbnjaaGreatDoorD00
set_option maxHeartbeats 4000000
set_option maxRecDepth 100000
set_option linter.all false
namespace Go.Proofs.YtdppjkjbghbnjaaGreatDoor
open Go.RowKit
def jk(ops:List Oper)(o:Oper)(L:FL)(s:SS):Option (Bool × SS):=match o.guard with
 | none=>some (true,s)
 | some (j,want)=>match (ops[j]?).bind (·.dst) with
  | some d=>match L.lookup d with
   | some (.bool b)=>match s.hints with
    | .gd c::hs=>some (c == want,{ s with hints:=hs,ob:=(b=c)::s.ob })
    | .gen::hs=>some (b == want,{ s with hints:=hs })
    | _=>some (b == want,s)
   | some (.tuple _)=>some (false,s)
   | _=>none
  | none=>none
theorem cz{N:Nat}{D:List Deferred}{ops:Array Oper}{o:Oper}{L:FL}{s s':SS}{b:Bool}{a:Act}(h:jk ops.toList o L s=some (b,s'))(hF:Fm N D L a)(iN:∀p∈s'.ob,p) :
  Region.wanted o (yielded ops a.tmps)=b /\ s'.h=s.h /\ s'.cnt=s.cnt:=by
 unfold jk at h;unfold Region.wanted;split at h
 ·rename_i hg;cases h;rw[hg];exact⟨rfl,rfl,rfl⟩
 ·rename_i j want hg;rw[hg];simp only;split at h
  case h_2=>cases h
  rename_i d hd;have Tt:(ops[j]?).bind (·.dst)=some d:=by simpa using hd
  split at h
  ·rename_i x hx;have hy:yielded ops a.tmps j=some x:=by unfold yielded;rw[Tt];simp[hF.has _ _ hx]
   split at h
   ·cases h;have:=iN _ (aax);subst this;rw[hy];exact⟨by simp,rfl,rfl⟩
   ·cases h;rw[hy];exact⟨by simp,rfl,rfl⟩
   ·cases h;rw[hy];exact⟨by simp,rfl,rfl⟩
  ·rename_i x hx;cases h;have hy:yielded ops a.tmps j=none:=by unfold yielded;rw[Tt];simp[hF.has _ _ hx]
   rw[hy];exact⟨rfl,rfl,rfl⟩
  ·cases h
theorem bL{ops:List Oper}{o:Oper}{L:FL}{s s':SS}{b:Bool}(h:jk ops o L s=some (b,s')):(∀p∈s.eq,p∈s'.eq) /\ (∀p∈s.ob,p∈s'.ob) /\ s'.r=s.r /\ s'.wr=s.wr:=by
 unfold jk at h
 repeat' split at h
 all_goals first
  | (cases h;done)
  | (cases h;exact⟨λ _ h=>h,λ _ h=>h,rfl,rfl⟩)
  | (cases h;exact⟨λ _ h=>h,λ _ h=>aaA _ h,rfl,rfl⟩)
def wb(P:Program)(n0 N:Nat)(ops:List Oper):List Oper -> FL -> SS -> Option (FL × SS)
 | [],L,s=>some (L,s)
 | o::rest,L,s=>match jk ops o L s with
  | none=>none
  | some (false,s)=>match eh N o.dst undef L with
   | some L=>wb P n0 N ops rest L s
   | none=>none
  | some (true,s)=>match iJ o.op L with
   | false=>none
   | true=>match ev P n0 o (fA L) s with
    | some (.value v,s)=>match eh N o.dst v L with
     | some L=>wb P n0 N ops rest L s
     | none=>none
    | some (.skip,s)=>match eh N o.dst undef L with
     | some L=>wb P n0 N ops rest L s
     | none=>none
    | _=>none
theorem lH{P:Program}{n0 N:Nat}{ops:List Oper}:∀ (l:List Oper) (L L':FL) (s s':SS),wb P n0 N ops l L s=some (L',s') -> (∀p∈s.eq,p∈s'.eq) /\ (∀p∈s.ob,p∈s'.ob) /\ s'.r=s.r
 | [],L,L',s,s',h=>by rw[wb] at h;cases h;exact⟨λ _ h=>h,λ _ h=>h,rfl⟩
 | o::rest,L,L',s,s',h=>by
  rw[wb] at h;split at h
  ·cases h
  ·rename_i s1 hw;split at h
   case h_2=>cases h
   obtain⟨a1,a2,a3,a4⟩:=bL hw;obtain⟨b1,b2,b3⟩:=lH rest _ _ _ _ h;exact⟨λ p hp=>b1 p (a1 p hp),λ p hp=>b2 p (a2 p hp),b3.trans a3⟩
  ·rename_i s1 hw;split at h
   ·cases h
   obtain⟨a1,a2,a3,a4⟩:=bL hw;split at h
   ·rename_i v s2 he;split at h
    case h_2=>cases h
    obtain⟨c1,c2,c3,c4⟩:=dG he;obtain⟨b1,b2,b3⟩:=lH rest _ _ _ _ h;exact⟨λ p hp=>b1 p (c1 p (a1 p hp)),λ p hp=>b2 p (c2 p (a2 p hp)),b3.trans (c3.trans a3)⟩
   ·rename_i s2 he;split at h
    case h_2=>cases h
    obtain⟨c1,c2,c3,c4⟩:=dG he;obtain⟨b1,b2,b3⟩:=lH rest _ _ _ _ h;exact⟨λ p hp=>b1 p (c1 p (a1 p hp)),λ p hp=>b2 p (c2 p (a2 p hp)),b3.trans (c3.trans a3)⟩
   ·cases h
def Wr(r:Option Nat):Fence:={ fn:=λ _=>True,depth:=none,alive:=false,round:=r }
theorem jI{r:Option Nat}{n:Nat}{P:Program}{f:FuncId}{args:Array Value}{w:World}{R:Ending -> World -> Prop}(h:Calls P f args w R):CallsIn (Wr r) n P f args w R:=(callsIn_wide (n:=n)).2 h
theorem wc{o:Op}{L:FL}(h:iJ o L=true):∀c,o ≠ .defer c:=by
 rintro c rfl;simp[iJ,cq] at h
theorem Fm.sem{r:Option Nat}{N:Nat}{D:List Deferred}{L:FL}{a:Act}(h:Fm N D L a){o:Oper}(ho:iJ o.op L=true):o.semAt (Wr r).round a.eval=execOp (fA L) o:=by
 rw[Oper.semAt_eq _ _ _ (wc ho),h.exec ho]
def AllP:List Prop -> Prop
 | []=>True
 | p::l=>p /\ AllP l
theorem AllP.mem:∀ {l:List Prop},AllP l -> ∀p∈l,p
 | _::_,h,p,hp=>by
  rcases List.mem_cons.1 hp with rfl|hp
  ·exact h.1
  ·exact AllP.mem h.2 p hp
def TR(r:Option Nat)(P:Program)(N:Nat)(D:List Deferred)(F:HL)(w0:World)(L:FL)(H:HL)(c:Code)(Q:Exit -> Act -> World -> Prop):Prop :=
 ∀a w,Fm N D L a -> Rel (H++F) w -> Below 0 w0 w -> c.wpIn (Wr r) 0 P Q a w
def EX(N:Nat)(D:List Deferred)(F:HL)(w0:World)(L:FL)(H:HL)(Q:Exit -> Act -> World -> Prop)(e:Exit):Prop :=
 ∀a w,Fm N D L a -> Rel (H++F) w -> Below 0 w0 w -> Q e a w
theorem fR:∀ {l:List (Nat × Nat)} {E:List Nat},l.map (·.1)=E -> l.map (·.2)=E -> ∀p∈l,p.1=p.2
 | [],_,_,_,p,hp=>by cases hp
 | q::l,E,h1,h2,p,hp=>by
  subst h1;simp only[List.map_cons,List.cons.injEq] at h2;rcases List.mem_cons.1 hp with rfl|hp
  ·exact h2.1.symm
  ·exact fR rfl h2.2 p hp
section
variable {r:Option Nat} {P:Program} {N:Nat} {D:List Deferred} {F:HL} {w0:World} {ops:Array Oper} {i:Nat} {L:FL} {H:HL} {Q:Exit -> Act -> World -> Prop}
def Sp(P:Program)(f:FuncId)(args:Array Value)(H F:HL)(R:Value -> HL -> Prop):Prop :=
 ∀w,Rel (H++F) w -> Calls P f args w λ e w'=>∃v H',e=.returned v /\ R v H' /\ Rel (H'++F) w' /\ Below 0 w w'
theorem Sp.mono{f:FuncId}{args:Array Value}{R R':Value -> HL -> Prop}(h:Sp P f args H F R)(hr:∀v H',R v H' -> R' v H'):Sp P f args H F R' :=
 λ w hR=>(h w hR).mono λ e w' ⟨v,H',h1,h2,h3,h4⟩=>⟨v,H',h1,hr _ _ h2,h3,h4⟩
end
def nA(P:Program)(n0 N:Nat)(ops:List Oper)(i:Nat)(L:FL)(H R:HL)(hints:List Hint):Option (Option Tmp × FuncId × Array Value × HL × List Nat × List Nat × List Prop) :=
 match ops[i]? with
 | none=>none
 | some o=>match jk ops o L ⟨H,R,hints,0,[],[],true⟩ with
  | some (true,s)=>match iJ o.op L with
   | true=>match ev P n0 o (fA L) s with
    | some (.enter f args,s')=>match s'.hints with
     | []=>some (o.dst,f,args,s'.h,s'.eq.map (·.1),s'.eq.map (·.2),s'.ob)
     | _=>none
    | _=>none
   | false=>none
  | _=>none
section
variable {r:Option Nat} {P:Program} {N:Nat} {D:List Deferred} {F:HL} {w0:World} {ops:Array Oper} {i:Nat} {L:FL} {H:HL} {Q:Exit -> Act -> World -> Prop}
theorem iL{n0:Nat}{R:HL}{hints:List Hint}{dst:Option Tmp}{f:FuncId}{args:Array Value}{H1:HL}{E E':List Nat}{Ob:List Prop}{l:List Oper}
  (h:nA P n0 N l i L H R hints=some (dst,f,args,H1,E,E',Ob)) :
  ∃o s s',l[i]?=some o /\ jk l o L ⟨H,R,hints,0,[],[],true⟩=some (true,s) /\ iJ o.op L=true /\ ev P n0 o (fA L) s=some (.enter f args,s') /\ o.dst=dst /\ s'.h=H1 /\ s'.eq.map (·.1)=E /\ s'.eq.map (·.2)=E' /\ s'.ob=Ob:=by
 unfold nA at h;split at h
 ·cases h
 ·rename_i o ho;split at h
  case h_2=>cases h
  rename_i s hs;split at h
  case h_2=>cases h
  rename_i g_;split at h
  case h_2=>cases h
  rename_i f' j_ s' he;split at h
  case h_2=>cases h
  simp only[Option.some.injEq,Prod.mk.injEq] at h;obtain⟨e1,e2,e3,e4,e5,e6,e7⟩:=h;subst e2;subst e3;exact⟨o,s,s',ho,hs,g_,he,e1,e4,e5,e6,e7⟩
theorem TR.exit{id:Nat}(h:EX N D F w0 L H Q (.exit id)):TR r P N D F w0 L H (.exit id) Q:=λ a w h1 h2 h3=>wpIn_exit (h a w h1 h2 h3)
theorem JR(h:EX N D F w0 L H Q .ret):TR r P N D F w0 L H .ret Q:=λ a w h1 h2 h3=>wpIn_ret (h a w h1 h2 h3)
abbrev ap(A:HL)(Ts:List HL):HL:=A++Ts.flatten
theorem fm{α:Type}(l:List α)(ip ir:List Nat)(hp:(ip++ir).isPerm (List.range l.length)=true):(ip.filterMap (l[·]?)++ir.filterMap (l[·]?)).Perm l:=by
 have h1:=(List.isPerm_iff.1 hp).filterMap (l[·]?);have h2:(List.range l.length).filterMap (l[·]?)=l:=by
  clear hp h1
  induction l with
  | nil=>rfl
  | cons x l ih =>
   rw[abr,List.range_succ_eq_map,List.filterMap_cons];simp only[List.getElem?_cons_zero,List.filterMap_map];congr 1
 rw[h2,List.filterMap_append] at h1;exact h1
theorem lI(A:HL)(Ts:List HL)(ip ir jp jr:List Nat)(hp:(ip++ir).isPerm (List.range A.length)=true)(hj:(jp++jr).isPerm (List.range Ts.length)=true) :
  (ap (ip.filterMap (A[·]?)) (jp.filterMap (Ts[·]?))++ap (ir.filterMap (A[·]?)) (jr.filterMap (Ts[·]?))).Perm (ap A Ts):=by
 have h1:=fm A ip ir hp;have h2:=(fm Ts jp jr hj).flatten;rw[List.flatten_append] at h2;refine List.Perm.trans ?_ (List.Perm.append h1 h2);rw[aaC,aaC];refine List.Perm.append_left _ ?_;rw[<- aaC,<- aaC];exact abO _ abL
theorem uu(A B:HL)(As Bs:List HL)(C:HL):(ap A As++(ap B Bs++C)).Perm (ap (A++B) (As++Bs)++C):=by
 rw[<- aaC];refine abO C ?_;show (A++As.flatten++(B++Bs.flatten)).Perm (A++B++(As++Bs).flatten);rw[List.flatten_append,aaC,aaC];refine List.Perm.append_left _ ?_;rw[<- aaC,<- aaC];exact abO _ abL
theorem Rel.takeT{A F H':HL}{Ts:List HL}{w:World}(ip ir jp jr:List Nat)(hp:(ip++ir).isPerm (List.range A.length)=true)(hj:(jp++jr).isPerm (List.range Ts.length)=true)(e:ap (ip.filterMap (A[·]?)) (jp.filterMap (Ts[·]?))=H')(h:Rel (ap A Ts++F) w):Rel (H'++F) w:=by
 have h1:=h.perm ((lI A Ts ip ir jp jr hp hj).append_right F);rw[aaC,e] at h1;exact h1.sub ((List.Sublist.refl _).append (List.sublist_append_right _ _))
theorem fM{P:Program}{b:Frame}{a:Act}{c:Code}{k:List Item}{cs:List Frame}{w:World} :
  step P (lone (b.atR a (.code (.scope c)::k)) cs w)=.next (lone (b.atR a (.code c :: .inScope c::k)) cs w) :=
 step_lone_go (by simp[stepG,stepG.exec,Frame.atR])
theorem se{P:Program}{b:Frame}{a:Act}{c:Code}{k:List Item}{cs:List Frame}{w:World} :
  step P (lone (b.atR a (.inScope c::k)) cs w)=.next (lone (b.atR a k) cs w) :=
 step_lone_go (by simp[stepG,stepG.exec,Frame.atR])
theorem ii{Fe:Fence}{n:Nat}{P:Program}{c:Code}{Q:Exit -> Act -> World -> Prop}{a:Act}{w:World}(h:c.wpIn Fe n P (Exit.noGoto Q) a w):(Code.scope c).wpIn Fe n P Q a w:=by
 intro b k cs RU hb hr;have h0:(lone (b.atR a (.code (.scope c)::k)) cs w).fenced P Fe:=fenced_calm hb hr rfl;obtain⟨e,a₁,w₁,hq,o_⟩:=h b (.inScope c::k) cs RU hb hr;cases e with
 | normal=>exact⟨.normal,a₁,w₁,hq,.head h0 fM (StepsIn.trans o_ (.one (fenced_calm hb hr rfl) se))⟩
 | exit id=>exact⟨.exit id,a₁,w₁,hq,λ k' hk=>.head h0 fM (o_.1 k' (by simp[exitTo,hk])),λ aej hk=>let ⟨k₁,h1,h2⟩:=o_.2 aej (by simpa [exitTo] using hk);⟨k₁,h1,.head h0 fM h2⟩⟩
 | goto l=>exact hq.elim
 | ret=>exact⟨_,a₁,w₁,hq,.of_steps (.one h0 fM) o_⟩
 | panic ch=>exact⟨_,a₁,w₁,hq,.of_steps (.one h0 fM) o_⟩
 | outgrown=>exact⟨_,a₁,w₁,hq,.of_steps (.one h0 fM) o_⟩
abbrev vI(n:Int):Value:=.int .i64 n
abbrev vP(b o:Nat):Value:=.pointer (some ⟨b,o,none⟩)
abbrev vS(b o n c:Nat):Value:=.slice (some ⟨b,o,none⟩) n c
def uv(l:List Value):Nat -> Nat -> Value:=λ _ k=>(⟨l⟩:Array Value).getD k default
theorem ac{p:Prop}{l:List Prop}(h:p)(k:AllP l):AllP (p::l):=⟨h,k⟩
theorem an:AllP []:=trivial
theorem mc{F R:HL}{x:Nat × Blk}(h:x∈F)(k:∀y∈R,y∈F):∀y∈x::R,y∈F:=λ y hy=>by
 rcases List.mem_cons.1 hy with rfl|hy
 ·exact h
 ·exact k y hy
theorem mn{F:HL}:∀y∈([]:HL),y∈F:=λ y hy=>by cases hy
def My{σ:Type}(N:Nat)(D:List Deferred)(F:HL)(w0:World)(Lx:σ -> FL)(Hx:σ -> HL)(I:σ -> Prop)(a:Act)(w:World):Prop :=
 ∃x,I x /\ Fm N D (Lx x) a /\ Rel (Hx x++F) w /\ Below 0 w0 w
theorem TR.loop{σ:Type}(Lx:σ -> FL)(Hx:σ -> HL)(I:σ -> Prop)(μ:σ -> Nat){c:Code}(x0:σ)(hi:I x0)(keys:List Nat)(hL:sM keys L=some (Lx x0)){A:HL}{Ts:List HL}(ip ir jp jr:List Nat)(hp:(ip++ir).isPerm (List.range A.length)=true)(hj:(jp++jr).isPerm (List.range Ts.length)=true)(hH:ap (ip.filterMap (A[·]?)) (jp.filterMap (Ts[·]?))=Hx x0)
  (round:∀x,I x -> TR r P N D F w0 (Lx x) (Hx x) c (Exit.then (My N D F w0 Lx Hx (λ x'=>I x' /\ μ x'<μ x)) Q)):TR r P N D F w0 L (ap A Ts) (.loop c) Q:=by
 intro a w h1 h2 h3
 replace h2:=h2.takeT ip ir jp jr hp hj hH
 have key:∀n x,μ x <= n -> I x -> ∀a w,Fm N D (Lx x) a -> Rel (Hx x++F) w -> Below 0 w0 w -> ∀ (b:Frame) (k:List Item) (cs:List Frame),b.roundOf=(Wr r).round -> (Wr r).fn b.fn -> (Wr r).room (cs.length+1+0) -> ∃e a' w',Q e a' w' /\ ArrivesIn (Machine.fenced P (Wr r)) P (lone (b.atR a (.code c :: .inLoop c::k)) cs w) b k cs e a' w':=by
  intro n
  induction n using Nat.strongRecOn with
  | _ n ih =>
   intro x hn hI a w k1 k2 k3 b k cs RU hb hr;obtain⟨e,a₁,w₁,hq,o_⟩:=round x hI a w k1 k2 k3 b (.inLoop c::k) cs RU hb hr;cases e with
   | normal =>
    obtain⟨x',⟨hI',iF⟩,m1,m2,m3⟩:=hq;obtain⟨e₂,a₂,w₂,TI,RP⟩:=ih (μ x') (by omega) x' (aa0 _) hI' a₁ w₁ m1 m2 m3 b k cs RU hb hr;exact⟨e₂,a₂,w₂,TI,.of_steps (StepsIn.trans o_ (.one (fenced_calm hb hr rfl) stepR_inLoop)) RP⟩
   | exit id=>exact⟨_,a₁,w₁,hq,.pass (x:=.inLoop c) rfl (λ _ _=>.inl (by simp)) o_⟩
   | goto l=>exact⟨_,a₁,w₁,hq,.pass (x:=.inLoop c) rfl (λ _ _=>.inl (by simp)) o_⟩
   | ret=>exact⟨_,a₁,w₁,hq,.pass (x:=.inLoop c) rfl (λ _ _=>.inl (by simp)) o_⟩
   | panic ch=>exact⟨_,a₁,w₁,hq,.pass (x:=.inLoop c) rfl (λ _ _=>.inl (by simp)) o_⟩
   | outgrown=>exact⟨_,a₁,w₁,hq,.pass (x:=.inLoop c) rfl (λ _ _=>.inl (by simp)) o_⟩
 intro b k cs RU hb hr;obtain⟨e,a',w',hq,o_⟩:=key _ x0 (aa0 _) hi a w (h1.pick hL) h2 h3 b k cs RU hb hr;exact⟨e,a',w',hq,.of_steps (.one (fenced_calm hb hr rfl) stepR_loop) o_⟩
def Bp(F:HL)(w0:World)(R:Value -> HL -> Prop)(e:Ending)(w':World):Prop:=∃v H',e=.returned v /\ R v H' /\ Rel (H'++F) w' /\ Below 0 w0 w'
def qp:Nat -> List Value -> FL
 | _,[]=>[]
 | n,v::l=>(n,v)::qp (n+1) l
theorem kf:∀ (n:Nat) (l:List Value) (t:Nat) (v:Value),(qp n l).lookup t=some v -> n <= t /\ l[t-n]?=some v
 | _,[],_,_,h=>by cases h
 | n,u::l,t,v,h=>by
  rw[qp,List.lookup_cons] at h
  by_cases e:t=n
  ·subst e;simp at h;subst h;simp
  ·have:(t == n)=false:=by simpa using e
   rw[this] at h;obtain⟨h1,h2⟩:=kf (n+1) l t v h;refine⟨by omega,?_⟩;have:t-n=(t-(n+1))+1:=by omega
   rw[this];simpa using h2
theorem zk{f:FuncId}{fn:Func}{c:Code}{args:Array Value}{R:Value -> HL -> Prop}(hf:P.funcs[f]?=some fn)(hb:fn.body=some c)(hn:fn.ntmps=N)(ha:decide (args.size <= N)=true)
  (L:FL) (hL:qp 0 args.toList=L) (h:∀w0,TR none P N [] F w0 L H c (bodyPost P fn (Bp F w0 R))):Sp P f args H F R:=by
 intro w hR;refine calls_of_wp hf hb ((wpIn_wide (n:=0)).1 ?_);have ha':args.size <= N:=aci ha;refine h w _ w ⟨?_,rfl,?_⟩ hR (Below.refl _ _)
 ·simp[hn];omega
 ·subst hL;intro t v ht;obtain⟨_,h2⟩:=kf 0 _ t v ht;have h3:args[t]?=some v:=by simpa using h2
  have iF:t<args.size:=(Array.getElem?_eq_some_iff.1 h3).1;simp only;rw[Array.getElem?_append_left iF];exact h3
def resL(P:Program)(n0:Nat)(L:FL):List ResultVar -> SS -> Option (List Value × SS)
 | [],s=>some ([],s)
 | .tmp t::l,s=>match L.lookup t with
  | some v=>match resL P n0 L l s with
   | some (vs,s)=>some (v::vs,s)
   | none=>none
  | none=>none
 | .cell t ty::l,s=>match L.lookup t with
  | some (.pointer (some a))=>match cy P n0 (loadVar ty a) s with
   | some (v,s)=>match resL P n0 L l s with
    | some (vs,s)=>some (v::vs,s)
    | none=>none
   | none=>none
  | _=>none
def Qq:List Value -> Value
 | [v]=>v
 | vs=>.tuple ⟨vs⟩
def zl(P:Program)(n0:Nat)(L:FL)(rs:List ResultVar)(H R:HL)(hints:List Hint):Option (Value × List Nat × List Nat × List Prop) :=
 match resL P n0 L rs ⟨H,R,hints,0,[],[],false⟩ with
 | some (vs,s)=>match s.hints with
  | []=>some (Qq vs,s.eq.map (·.1),s.eq.map (·.2),s.ob)
  | _=>none
 | none=>none
theorem mL{n0:Nat}:∀ (rs:List ResultVar) (s s':SS) (vs:List Value),resL P n0 L rs s=some (vs,s') -> (∀p∈s.eq,p∈s'.eq) /\ (∀p∈s.ob,p∈s'.ob)
 | [],s,s',vs,h=>by rw[resL] at h;cases h;exact⟨λ _ h=>h,λ _ h=>h⟩
 | .tmp t::l,s,s',vs,h=>by
  rw[resL] at h;split at h
  ·split at h
   ·rename_i hr;cases h;exact mL l _ _ _ hr
   ·cases h
  ·cases h
 | .cell t ty::l,s,s',vs,h=>by
  rw[resL] at h;split at h
  ·split at h
   ·rename_i ha;split at h
    ·rename_i hr;cases h;obtain⟨a1,a2,_⟩:=dF _ _ _ _ ha;obtain⟨b1,b2⟩:=mL l _ _ _ hr;exact⟨λ p hp=>b1 p (a1 p hp),λ p hp=>b2 p (a2 p hp)⟩
    ·cases h
   ·cases h
  ·cases h
def we(tmps:Array Value):ResultVar -> Sem Value
 | .tmp t=>pure (tmps.getD t undef)
 | .cell a t=>do loadVar t (<- asAddr (tmps.getD a undef))
theorem jJ{n0:Nat}{a:Act}{w:World}(hF:Fm N D L a)(hR:Rel (H++F) w):∀ (rs:List ResultVar) (s s':SS) (vs:List Value),resL P n0 L rs s=some (vs,s') -> s.wr=false -> s.h=H -> (∀y∈s.r,y∈F) -> (s.wr=true -> n0+s.cnt=w.heap.size) ->
  (∀p∈s'.eq,p.1=p.2) -> (∀p∈s'.ob,p) -> (rs.mapM (we a.tmps)).run P w=.ok vs w
 | [],s,s',vs,h,_,_,_,_,_,_=>by rw[resL] at h;cases h;rfl
 | .tmp t::l,s,s',vs,h,hw,hh,hr,hn,heq,iN=>by
  rw[resL] at h;split at h
  ·rename_i v hv;split at h
   ·rename_i No s1 VJ;cases h;have ih:=jJ hF hR l _ _ _ VJ hw hh hr hn heq iN;rw[List.mapM_cons,ace];simp[we,hF.has _ _ hv,ace,ih]
   ·cases h
  ·cases h
 | .cell t ty::l,s,s',vs,h,hw,hh,hr,hn,heq,iN=>by
  rw[resL] at h;split at h
  ·rename_i ad hv;split at h
   ·rename_i v s1 ha;split at h
    ·rename_i No s2 VJ;cases h;obtain⟨a1,a2,a3,a4⟩:=dF _ _ _ _ ha;obtain⟨b1,b2⟩:=mL l _ _ _ VJ;obtain⟨w1,e1,e2,e3,e4,e5⟩:=mK (F:=F) _ _ _ _ w ha (λ p hp=>heq p (b1 p hp)) (λ p hp=>iN p (b2 p hp)) (by rw[hh];exact hR) hr hn;obtain rfl:=e5 hw;have hh1:s1.h=H:=by rw[Bm _ _ _ _ ha hw];exact hh
     have ih:=jJ hF hR l _ _ _ VJ (a4.trans hw) hh1 (by rw[a3];exact hr) (λ e=>e4 (a4.symm.trans e)) heq iN;rw[List.mapM_cons,ace];simp[we,hF.has _ _ hv,ace,asAddr,e1,ih]
    ·cases h
   ·cases h
  ·cases h
theorem jl{fn:Func}{rs:List ResultVar}(Vg:fn.results=⟨rs⟩){tmps:Array Value}{w:World}{vs:List Value}(h:(rs.mapM (we tmps)).run P w=.ok vs w):(results fn tmps).run P w=.ok (Qq vs) w:=by
 have h1:(results fn tmps)=(do let vs <- (⟨rs⟩:Array ResultVar).mapM (we tmps);pure (if h:vs.size=1 then vs[0] else .tuple vs)):=by
  unfold results;rw[Vg];congr 1
 rw[h1];have h2:(⟨rs⟩:Array ResultVar).mapM (we tmps)=List.toArray <$> rs.mapM (we tmps):=by simp
 rw[h2];have h3:((List.toArray <$> rs.mapM (we tmps)):Sem (Array Value)).run P w=.ok ⟨vs⟩ w:=by
  rw[map_eq_pure_bind,ace,h];rfl
 rw[ace,h3]
 match vs with
 | []=>rfl
 | [v]=>rfl
 | v::u::l=>simp[Qq]
theorem TR.ret{fn:Func}{R:Value -> HL -> Prop}(hQ:∀a w,bodyPost P fn (Bp F w0 R) .ret a w -> Q .ret a w){rs:List ResultVar}(Vg:fn.results=⟨rs⟩)(hD:D=[])(Ro:HL)(hints:List Hint)(v:Value)(E:List Nat)(Ob:List Prop)
  {A:HL} {Ts:List HL} (h:∀n0,zl P n0 L rs (ap A Ts) Ro hints=some (v,E,E,Ob)) (Xk:∀y∈Ro,y∈F) (iN:AllP Ob) (ip ir jp jr:List Nat) (H':HL) (hp:(ip++ir).isPerm (List.range A.length)=true) (hj:(jp++jr).isPerm (List.range Ts.length)=true) (hH:ap (ip.filterMap (A[·]?)) (jp.filterMap (Ts[·]?))=H') (hv:R v H'):TR r P N D F w0 L (ap A Ts) .ret Q:=by
 refine JR ?_;intro a w hF hR hB;refine hQ a w ?_;have h':=h w.heap.size;unfold zl at h';split at h'
 case h_2=>cases h'
 rename_i vs s hs;split at h'
 case h_2=>cases h'
 simp only[Option.some.injEq,Prod.mk.injEq] at h';obtain⟨e1,e2,e3,e4⟩:=h';have iD:=jJ (P:=P) hF hR rs _ _ _ hs rfl rfl Xk (λ e=>by cases e) (fR e2 e3) (by rw[e4];exact AllP.mem iN);subst e1;exact⟨hF.defs.trans hD,_,jl Vg iD,_,H',rfl,hv,hR.takeT ip ir jp jr hp hj hH,hB⟩
theorem wg{f:FuncId}{args:Array Value}{v:Value}(h:∀w,Calls P f args w λ e w'=>e=.returned v /\ w'=w)(F:HL):Sp P f args [] F (λ u H'=>u=v /\ H'=[]):=λ w hR =>
 (h w).mono λ e w' ⟨h1,h2⟩=>⟨v,[],h1,⟨rfl,rfl⟩,by rw[h2];exact hR,by rw[h2];exact Below.refl _ _⟩
end
def dt(P:Program)(o:Oper)(a:Act)(w:World)(R:Value -> World -> Prop):Prop:=match (execOp a.eval o).run P w with
 | .ok (.value u) w'=>R u w'
 | .ok .skip w'=>R undef w'
 | .ok (.enter f args) w'=>Calls P f args w' fun
  | .returned u,w''=>R u w''
  | _,_=>False
 | _=>False
theorem eZ{P:Program}{o:Oper}{a:Act}{w:World}{R R':Value -> World -> Prop}(h:dt P o a w R)(hr:∀u w,R u w -> R' u w):dt P o a w R':=by
 unfold dt at *;split at h
 ·exact hr _ _ h
 ·exact hr _ _ h
 ·exact h.mono λ e w he=>by cases e <;> first|exact hr _ _ he|exact he
 ·exact h
theorem fc{r:Option Nat}{P:Program}{o:Oper}{a:Act}{w:World}{R:Value -> World -> Prop}{K:Act -> World -> Prop}{Q:Exit -> Act -> World -> Prop}(hd:∀c,o.op ≠ .defer c)(h:dt P o a w R)(hk:∀u w',R u w' -> K (a.put o.dst u) w') :
  o.uponIn (Wr r) 0 P a K Q ((o.semAt (Wr r).round a.eval).run P w):=by
 rw[Oper.semAt_eq _ _ _ hd];unfold dt at h;split at h
 ·rename_i u w' he;rw[he];exact hk _ _ h
 ·rename_i w' he;rw[he];exact hk _ _ h
 ·rename_i f args w' he;rw[he,Oper.uponIn_enter];exact⟨λ h=>(by cases h),jI (h.mono λ e w he=>by
   cases e with
   | returned u=>exact hk _ _ he
   | panicked _=>exact he.elim
   | outgrown=>exact he.elim)⟩
 ·exact h.elim
theorem qr{P:Program}{o:Oper}{a a':Act}{w:World}{R:Value -> World -> Prop}(he:execOp a'.eval o=execOp a.eval o)(h:dt P o a w R):dt P o a' w R:=by
 unfold dt at *;rw[he];exact h
section
variable {P:Program} {ops:Array Oper} {Q:Exit -> Act -> World -> Prop} {F:HL} {w0:World} {hards:List Nat} {Rd:HL}
def OPJ(P:Program)(ops:Array Oper)(F:HL)(w0:World)(hards:List Nat)(Rd:HL)(i:Nat)(a:Act)(H:HL)(K:Act -> HL -> Prop):Prop:=match ops[i]? with
 | none=>False
 | some o=>if Region.wanted o (yielded ops a.tmps)=true then
   ∀w,Rel (H++F) w -> Below 0 w0 w -> dt P o a w λ u w'=>∃H',((i ∉ hards -> ∃X,H'=X++H) /\ (i∈hards -> ∀x∈Rd,x∈H')) /\ K (a.put o.dst u) H' /\ Rel (H'++F) w' /\ Below 0 w0 w'
  else K (a.put o.dst undef) H
def Qr(Q:Exit -> Act -> World -> Prop)(F:HL)(w0:World)(a:Act)(H:HL):Prop:=∀w,Rel (H++F) w -> Below 0 w0 w -> Q .normal a w
def JJ(P:Program)(ops:Array Oper)(Q:Exit -> Act -> World -> Prop)(F:HL)(w0:World)(hards:List Nat)(Rd:HL):Nat -> Array Bool -> Act -> HL -> Prop
 | 0,listed,a,H=>Region.ready .any ops listed=[] /\ Qr Q F w0 a H
 | fuel+1,listed,a,H=>(Region.ready .any ops listed=[] -> Qr Q F w0 a H) /\
  ∀i∈Region.ready .any ops listed,OPJ P ops F w0 hards Rd i a H (JJ P ops Q F w0 hards Rd fuel (listed.setIfInBounds i true))
def VO(P:Program)(ops:Array Oper)(F:HL)(w0:World)(o:Oper)(v:Value)(a:Act)(H:HL):Prop :=
 (Region.wanted o (yielded ops a.tmps)=true /\ ∀X w,Rel (X++(H++F)) w -> Below 0 w0 w -> dt P o a w λ u w'=>u=v /\ Rel (X++(H++F)) w' /\ Below 0 w0 w') \/
 (Region.wanted o (yielded ops a.tmps)=false /\ v=undef)
theorem VO.same{o:Oper}{v:Value}{a a':Act}{H:HL}(h:VO P ops F w0 o v a H)(he:execOp a'.eval o=execOp a.eval o)(hw:Region.wanted o (yielded ops a'.tmps)=Region.wanted o (yielded ops a.tmps)):VO P ops F w0 o v a' H:=by
 rcases h with ⟨h1,h2⟩|⟨h1,h2⟩
 ·exact .inl ⟨hw.trans h1,λ X w hR hB=>qr he (h2 X w hR hB)⟩
 ·exact .inr ⟨hw.trans h1,h2⟩
theorem VO.more{o:Oper}{v:Value}{a:Act}{H:HL}(h:VO P ops F w0 o v a H)(X:HL):VO P ops F w0 o v a (X++H):=by
 rcases h with ⟨h1,h2⟩|⟨h1,h2⟩
 ·refine .inl ⟨h1,λ Y w hR hB=>?_⟩;have e:Y++(X++H++F)=(Y++X)++(H++F):=by simp
  rw[e] at hR ⊢;exact h2 (Y++X) w hR hB
 ·exact .inr ⟨h1,h2⟩
theorem VO.opj{i:Nat}{o:Oper}{v:Value}{a:Act}{H:HL}(SL:∀x∈Rd,x∈H)(hi:ops[i]?=some o)(h:VO P ops F w0 o v a H){K:Act -> HL -> Prop}(hk:K (a.put o.dst v) H):OPJ P ops F w0 hards Rd i a H K:=by
 unfold OPJ;rw[hi];simp only;rcases h with ⟨h1,h2⟩|⟨h1,rfl⟩
 ·rw[if_pos h1];intro w hR hB;refine eZ (h2 [] w hR hB) ?_;rintro u w' ⟨rfl,h3,h4⟩;exact⟨H,⟨λ _=>⟨[],rfl⟩,λ _=>SL⟩,hk,h3,h4⟩
 ·rw[if_neg (by rw[h1];simp)];exact hk
def comes(ops:Array Oper)(i:Nat):Nat -> Nat -> Bool
 | 0,_=>false
 | f+1,m=>match ops[m]? with
  | some o=>o.after.toList.any λ e=>Region.binds .any e && (e.on == i || comes ops i f e.on)
  | none=>false
def Closed(ops:Array Oper)(listed:Array Bool):Prop :=
 ∀j oj,ops[j]?=some oj -> listed.getD j false=true -> ∀e∈oj.after,Region.binds .any e=true -> listed.getD e.on false=true
theorem Closed.set{listed:Array Bool}{j:Nat}(h:Closed ops listed)(hj:j∈Region.ready .any ops listed):Closed ops (listed.setIfInBounds j true):=by
 obtain⟨_,oj,YE,ID⟩:=mem_ready.1 hj;intro k ok hk hl e he hb
 by_cases hjk:j=k
 ·subst hjk;obtain rfl:ok=oj:=Option.some.inj (hk.symm.trans YE);exact getD_set_true (ID e he hb)
 ·rw[getD_set_ne false hjk] at hl;exact getD_set_true (h k ok hk hl e he hb)
theorem Closed.comes{listed:Array Bool}(h:Closed ops listed){i:Nat}(hi:listed.getD i false=false):∀ (f m:Nat),comes ops i f m=true -> listed.getD m false=false
 | 0,m,ha=>by simp[YtdppjkjbghbnjaaGreatDoor.comes] at ha
 | f+1,m,ha=>by
  rw[YtdppjkjbghbnjaaGreatDoor.comes] at ha;cases hm:ops[m]? with
  | none=>rw[hm] at ha;cases ha
  | some o =>
   rw[hm] at ha;obtain⟨e,he,hb⟩:=List.any_eq_true.1 ha;simp only[ab1,Bool.or_eq_true,beq_iff_eq] at hb;cases hl:listed.getD m false with
   | false=>rfl
   | true =>
    have h1:=h m o hm hl e (by simpa using he) hb.1;rcases hb.2 with h2|h2
    ·rw[h2,hi] at h1;cases h1
    ·rw[h.comes hi f e.on h2] at h1;cases h1
theorem qs{listed:Array Bool}{i:Nat}(h:listed.getD i true=false):listed.getD i false=false:=by
 rcases abX i listed.size with h'|h'
 ·simp[h'] at h ⊢;exact h
 ·simp[Array.getElem?_eq_none h'] at h
theorem Ft{i:Nat}{oi:Oper}{v:Value}(hi:ops[i]?=some oi)(Yu:∀ (j:Nat) (o:Oper) cs b,ops[j]?=some o -> o.op ≠ .select cs b) :
  ∀ (fuel:Nat) (listed:Array Bool) (a:Act) (H:HL),((∀m∈hards,comes ops i ops.size m=true) \/ ∀H',(∀x∈Rd,x∈H') -> VO P ops F w0 oi v a H') -> (∀x∈Rd,x∈H) -> Closed ops listed ->
   (∀j oj,ops[j]?=some oj -> j≠i -> listed.getD j true=false -> (∀e∈oj.after,Region.binds .any e=true -> e.on≠i) -> oi.apart ops oj=true) ->
   i∈Region.ready .any ops listed -> VO P ops F w0 oi v a H ->
   JJ P ops Q F w0 hards Rd fuel (listed.setIfInBounds i true) (a.put oi.dst v) H -> JJ P ops Q F w0 hards Rd (fuel+1) listed a H:=by
 intro fuel
 induction fuel with
 | zero =>
  intro listed a H _ SL _ _ hr hy Sn;refine⟨λ h=>(by rw[h] at hr;cases hr),λ j hj=>?_⟩
  by_cases WC:j=i
  ·subst WC;exact hy.opj SL hi Sn
  ·have:=ready_mono hj WC;rw[Sn.1] at this;cases this
 | succ fuel ih =>
  intro listed a H hh SL Of XT hr hy hJ;refine⟨λ h=>(by rw[h] at hr;cases hr),λ j hj=>?_⟩
  by_cases WC:j=i
  ·subst WC;exact hy.opj SL hi hJ
  ·have h1:=hJ.2 j (ready_mono hj WC);obtain⟨YP,oj,YE,ID⟩:=mem_ready.1 hj;have abw:=(mem_ready.1 hr).1;have aeC:∀e∈oj.after,Region.binds .any e=true -> e.on≠i:=λ e he hb heq=>by
    have h1:=ID e he hb;rw[heq,qs abw] at h1;cases h1
   obtain⟨p1,p2,p3⟩:=Oper.apart_spec (XT j oj YE WC YP aeC);have Y2:=Of.set hj;have abv:(listed.setIfInBounds j true).getD i false=false:=by rw[getD_set_ne false WC];exact qs abw
   have aeX:j<listed.size:=by
    rcases abX j listed.size with h|h
    ·exact h
    ·simp[Array.getElem?_eq_none h] at YP
   have hjn:(∀m∈hards,comes ops i ops.size m=true) -> j ∉ hards:=λ hh hm=>by
    have h2:=Y2.comes abv _ j (hh j hm);simp[aeX] at h2
   have VZ:∀k ok,ops[k]?=some ok -> k≠i -> (listed.setIfInBounds j true).getD k true=false ->
     (∀e∈ok.after,Region.binds .any e=true -> e.on≠i) -> oi.apart ops ok=true:=λ k ok hk hki ZM Sz=>by
    refine XT k ok hk hki ?_ Sz
    by_cases hjk:j=k
    ·subst hjk;exact YP
    ·rw[getD_set_ne true hjk] at ZM;exact ZM
   have Wz:=ready_mono hr (Ne.symm WC);unfold OPJ at h1 ⊢;rw[YE] at h1 ⊢;simp only at h1 ⊢;rw[wanted_put oj a oi.dst v p1] at h1;have aaB:∀u,VO P ops F w0 oi v (a.put oj.dst u) H:=λ u=>hy.same (execOp_put oi (λ cs b=>Yu i oi cs b hi) a oj.dst u p3) (wanted_put oi a oj.dst u p3);have Vx:(∀H',(∀x∈Rd,x∈H') -> VO P ops F w0 oi v a H') -> ∀u H',(∀x∈Rd,x∈H') -> VO P ops F w0 oi v (a.put oj.dst u) H':=λ hh u H' hr=>(hh H' hr).same (execOp_put oi (λ cs b=>Yu i oi cs b hi) a oj.dst u p3) (wanted_put oi a oj.dst u p3)
   by_cases hw:Region.wanted oj (yielded ops a.tmps)=true
   ·rw[if_pos hw] at h1 ⊢;intro w hR hB;refine eZ (qr (execOp_put oj (λ cs b=>Yu j oj cs b YE) a oi.dst v p1).symm (h1 w hR hB)) ?_;rintro u w' ⟨H',hx,h2,h3,h4⟩;refine⟨H',hx,?_,h3,h4⟩;have ab0:∀x∈Rd,x∈H':=by
     by_cases hjh:j∈hards
     ·exact hx.2 hjh
     ·obtain⟨X,rfl⟩:=hx.1 hjh;exact λ x hx=>aav _ (SL x hx)
    have hy':VO P ops F w0 oi v (a.put oj.dst u) H':=by
     rcases hh with hh|hh
     ·obtain⟨X,rfl⟩:=hx.1 (hjn hh);exact(aaB u).more X
     ·exact Vx hh u H' ab0
    refine ih _ _ _ (hh.imp id λ hh=>Vx hh u) ab0 Y2 VZ Wz hy' ?_;rw[Array.setIfInBounds_comm _ _ WC,<- Act.put_comm a v u p2];exact h2
   ·rw[if_neg hw] at h1 ⊢;refine ih _ _ _ (hh.imp id λ hh=>Vx hh undef) SL Y2 VZ Wz (aaB undef) ?_;rw[Array.setIfInBounds_comm _ _ WC,<- Act.put_comm a v undef p2];exact h1
end
def jA(ops:List Oper)(listed:List Bool):List Nat :=
 (List.range ops.length).filter λ i=>!(listed.getD i true) && ((ops[i]?).map (·.after.toList.all λ e=>!Region.binds .any e || listed.getD e.on false)).getD false
theorem lJ(ops:Array Oper)(listed:List Bool):Region.ready .any ops ⟨listed⟩=jA ops.toList listed:=by
 unfold Region.ready jA;rw[Array.length_toList];apply List.filter_congr;intro i _;simp only[Array.getD_eq_getD_getElem?,List.getElem?_toArray,aaJ,Array.getElem?_toList];congr 1;cases ops[i]? with
 | none=>rfl
 | some o=>simp
def Om(ops:List Oper)(hards:List Nat)(listed:List Bool)(i:Nat):Bool :=
 (jA ops listed).contains i && Region.free .any ⟨ops⟩ ⟨listed⟩ i && hards.all (λ m=>comes ⟨ops⟩ i ops.length m)
def Ox(ops:List Oper)(listed:List Bool)(i:Nat):Bool :=
 (jA ops listed).contains i && Region.free .any ⟨ops⟩ ⟨listed⟩ i
def TD(P:Program)(N:Nat)(D:List Deferred)(F:HL)(w0:World)(ops:Array Oper)(hards:List Nat)(Rd:HL)(fuel:Nat)(listed:List Bool)(L:FL)(H:HL)(Q:Exit -> Act -> World -> Prop):Prop :=
 Closed ops ⟨listed⟩ -> ∀a,Fm N D L a -> JJ P ops Q F w0 hards Rd fuel ⟨listed⟩ a H
section
variable {r:Option Nat} {P:Program} {N:Nat} {D:List Deferred} {F:HL} {w0:World} {ops:Array Oper} {hards:List Nat} {Rd:HL} {fuel:Nat} {listed:List Bool} {L:FL} {H:HL} {Q:Exit -> Act -> World -> Prop}
theorem wh(n:Nat):Closed ops ⟨List.replicate n false⟩:=by
 intro j oj _ hl;exfalso;rcases abX j n with h|h
 ·simp[h] at hl
 ·simp[h] at hl
def pV(ops:Array Oper):Bool:=ops.all λ o=>match o.op with | .defer _=>false|_=>true
theorem uw(h:pV ops=true)(j:Nat)(o:Oper)(c:Call)(ho:ops[j]?=some o):o.op ≠ .defer c:=by
 intro heq;have:=Array.all_eq_true_iff_forall_mem.1 h o (Array.mem_of_getElem? ho);simp[heq] at this
theorem jB(hd:pV ops=true):∀ (fuel:Nat) (listed:Array Bool) (a:Act) (H:HL) (w:World),JJ P ops (NoPanic Q) F w0 hards Rd fuel listed a H -> Rel (H++F) w -> Below 0 w0 w -> wpAnyIn (Wr r) 0 P .any ops Q fuel listed a w
 | 0,_,a,H,w,h,hR,hB=>⟨h.1,h.2 w hR hB⟩
 | fuel+1,listed,a,H,w,h,hR,hB=>by
  refine⟨λ hr=>h.1 hr w hR hB,λ i hi=>?_⟩;have h1:=h.2 i hi;unfold OPJ at h1;unfold wpOpIn;cases ho:ops[i]? with
  | none=>rw[ho] at h1;exact h1.elim
  | some o =>
   rw[ho] at h1;simp only at h1 ⊢
   by_cases hw:Region.wanted o (yielded ops a.tmps)=true
   ·rw[if_pos hw] at h1 ⊢;refine⟨λ _ _=>trivial,fc (λ c=>uw hd i o c ho) (h1 w hR hB) ?_⟩;rintro u w' ⟨H',_,h2,h3,h4⟩;exact jB hd fuel _ _ H' w' h2 h3 h4
   ·rw[if_neg hw] at h1 ⊢;exact⟨λ _ _=>trivial,jB hd fuel _ _ H w h1 hR hB⟩
theorem TR.draw{id:Nat}(hards:List Nat)(Rd:HL)(hm:P.follows .mixedOrders=true)(hs:Region.noSelect ops=true)(hd:pV ops=true)(h:TD P N D F w0 ops hards Rd ops.size (List.replicate ops.toList.length false) L H (NoPanic Q)):TR r P N D F w0 L H (.region id ops true) Q:=by
 intro a w h1 h2 h3;refine wpIn_region_any hm ?_;have h4:=h (wh _) a h1;have e:Array.replicate ops.size false=⟨List.replicate ops.toList.length false⟩:=by simp
 rw[e];refine jB hd (hards:=hards) (Rd:=Rd) _ _ _ H _ h4 (h2.world rfl) ⟨h3.os,h3.tape,h3.output,h3.size,λ k hk=>by omega⟩
theorem TD.fin(hr:jA ops.toList listed=[])(h:EX N D F w0 L H Q .normal):TD P N D F w0 ops hards Rd fuel listed L H Q:=by
 intro _ a hF;have Wz:=(lJ ops listed).trans hr;have hx:Qr Q F w0 a H:=λ w hR hB=>h a w hF hR hB;cases fuel with
 | zero=>exact⟨Wz,hx⟩
 | succ n=>exact⟨λ _=>hx,λ i hi=>by rw[Wz] at hi;cases hi⟩
theorem Oy(h:EX N D F w0 L H Q .normal):EX N D F w0 L H (NoPanic Q) .normal:=h
def sf(P:Program)(n0 N:Nat)(ops:List Oper)(hards:List Nat)(Rd:HL):List Nat -> List Bool -> FL -> SS -> Option (List Bool × FL × SS)
 | [],listed,L,s=>some (listed,L,s)
 | i::is,listed,L,s=>match Ox ops listed i,ops[i]? with
  | true,some o=>match jk ops o L s with
   | none=>none
   | some (false,s)=>match eh N o.dst undef L with
    | some L=>sf P n0 N ops hards Rd is (bn listed i true) L s
    | none=>none
   | some (true,s)=>match iJ o.op L with
    | false=>none
    | true=>match Om ops hards listed i with
     | true=>match ev P n0 o (fA L) s with
      | some (.value v,s)=>match eh N o.dst v L with
       | some L=>sf P n0 N ops hards Rd is (bn listed i true) L s
       | none=>none
      | _=>none
     | false=>match ev P n0 o (fA L) { s with h:=[],r:=Rd++s.r } with
      | some (.value v,s')=>match eh N o.dst v L with
       | some L=>sf P n0 N ops hards Rd is (bn listed i true) L { s' with h:=s.h,r:=s.r }
       | none=>none
      | _=>none
  | _,_=>none
theorem Fu{i:Nat}(h:Ox ops.toList listed i=true):i∈Region.ready .any ops ⟨listed⟩ /\ Region.free .any ops ⟨listed⟩ i=true:=by
 unfold Ox at h;simp only[ab1,List.contains_iff_mem] at h;exact⟨by rw[lJ];exact h.1,h.2⟩
theorem Fv{i:Nat}(h:Om ops.toList hards listed i=true):i∈Region.ready .any ops ⟨listed⟩ /\ Region.free .any ops ⟨listed⟩ i=true /\ ∀m∈hards,comes ops i ops.size m=true:=by
 unfold Om at h;simp only[ab1,List.contains_iff_mem,List.all_eq_true] at h;obtain⟨⟨h1,h2⟩,h3⟩:=h;exact⟨by rw[lJ];exact h1,h2,λ m hm=>by simpa using h3 m hm⟩
theorem iM{n0:Nat}{l:List Oper}:∀ (is:List Nat) (b b':List Bool) (L L':FL) (s s':SS),sf P n0 N l hards Rd is b L s=some (b',L',s') -> (∀p∈s.eq,p∈s'.eq) /\ (∀p∈s.ob,p∈s'.ob)
 | [],b,b',L,L',s,s',h=>by rw[sf] at h;cases h;exact⟨λ _ h=>h,λ _ h=>h⟩
 | i::is,b,b',L,L',s,s',h=>by
  rw[sf] at h;split at h
  case h_2=>cases h
  split at h
  ·cases h
  ·rename_i hw;split at h
   case h_2=>cases h
   obtain⟨a1,a2,_⟩:=bL hw;obtain⟨b1,b2⟩:=iM is _ _ _ _ _ _ h;exact⟨λ p hp=>b1 p (a1 p hp),λ p hp=>b2 p (a2 p hp)⟩
  ·rename_i hw;split at h
   ·cases h
   split at h
   all_goals
    split at h
    case h_2=>cases h
    rename_i he;split at h
    case h_2=>cases h
    obtain⟨a1,a2,_⟩:=bL hw;obtain⟨c1,c2,_⟩:=dG he;obtain⟨b1,b2⟩:=iM is _ _ _ _ _ _ h;exact⟨λ p hp=>b1 p (c1 p (a1 p hp)),λ p hp=>b2 p (c2 p (a2 p hp))⟩
theorem Oz{n0:Nat}{o:Oper}{ρ:Operand -> Value}{s s':SS}{x:Next}(h:ev P n0 o ρ s=some (x,s'))(hw:s.wr=false):s'.h=s.h:=by
 unfold ev at h
 repeat' split at h
 all_goals first
  | exact(Bm _ _ _ _ h hw :)
  | (cases h;done)
  | (cases h;rfl)
  | (rename_i e;rw[hw] at e;cases e)
theorem nB(i:Nat):(⟨listed⟩:Array Bool).setIfInBounds i true=⟨bn listed i true⟩:=by
 rw[nu];simp
theorem Bq{i:Nat}{o:Oper}{v:Value}{L1:FL}(hs:Region.noSelect ops=true)(g_:Ox ops.toList listed i=true)(ho:ops[i]?=some o)(hp:∀a,Fm N D L a -> Fm N D L1 (a.put o.dst v))(hv:∀a,Fm N D L a -> VO P ops F w0 o v a H)
  (SL:∀x∈Rd,x∈H) (hh:Om ops.toList hards listed i=true \/ ∀a,Fm N D L a -> ∀H',(∀x∈Rd,x∈H') -> VO P ops F w0 o v a H')
  (h:TD P N D F w0 ops hards Rd fuel (bn listed i true) L1 H Q):TD P N D F w0 ops hards Rd (fuel+1) listed L H Q:=by
 intro Of a hF;obtain⟨h1,h2⟩:=Fu g_;refine Ft ho (Region.noSelect_spec hs) fuel _ a H (hh.imp (λ hh=>(Fv hh).2.2) (λ hh=>hh a hF)) SL Of (Region.free_spec ho h2) h1 (hv a hF) ?_;rw[nB];refine h ?_ _ (hp a hF);rw[<- nB];exact Of.set h1
theorem zm{X H F:HL}{w:World}(aT:Rel (X++(H++F)) w):Rel (H++(X++F)) w:=aT.perm (by
 rw[<- aaC,<- aaC];exact abO F abL)
theorem jm{Rr:HL}(hs:Region.noSelect ops=true)(SL:∀x∈Rd,x∈H)(hR:∀y∈Rr,y∈F):∀ (is:List Nat) (b b':List Bool) (L L':FL) (s s':SS),sf P 0 N ops.toList hards Rd is b L s=some (b',L',s') ->
  s.h=H -> s.r=Rr -> s.wr=false -> (∀p∈s'.eq,p.1=p.2) -> (∀p∈s'.ob,p) ->
  TD P N D F w0 ops hards Rd fuel b' L' H Q -> TD P N D F w0 ops hards Rd (fuel+is.length) b L H Q
 | [],b,b',L,L',s,s',h,_,_,_,_,_,hk=>by
  rw[sf] at h;cases h;exact hk
 | i::is,b,b',L,L',s,s',h,hh,hr,hw,heq,iN,hk=>by
  rw[sf] at h;split at h
  case h_2=>cases h
  rename_i o YD ho;have DO:ops[i]?=some o:=by simpa using ho
  split at h
  ·cases h
  ·rename_i s1 TW;split at h
   case h_2=>cases h
   rename_i L1 hp;obtain⟨a1,a2,a3,a4⟩:=bL TW;obtain⟨b1,b2⟩:=iM is _ _ _ _ _ _ h;have WR:∀a,Fm N D L a -> Region.wanted o (yielded ops a.tmps)=false /\ s1.h=s.h /\ s1.cnt=s.cnt:=λ a hF=>cz TW hF (λ p hp=>iN p (b2 p hp));refine λ Of a hF=>?_;obtain⟨c1,c2,c3⟩:=WR a hF;exact(Bq (v:=undef) hs YD DO (λ a hF=>hF.put hp) (λ a hF=>.inr ⟨(WR a hF).1,rfl⟩) SL (.inr λ a hF H' _=>.inr ⟨(WR a hF).1,rfl⟩)
    (jm hs SL hR is _ b' L1 L' s1 s' h (by rw[c2];exact hh) (by rw[a3];exact hr) (a4.trans hw) heq iN hk):TD P N D F w0 ops hards Rd (fuel+is.length+1) b L H Q) Of a hF
  ·rename_i s1 TW;split at h
   ·cases h
   rename_i g_;obtain⟨a1,a2,a3,a4⟩:=bL TW;split at h
   ·rename_i aey;split at h
    case h_2=>cases h
    rename_i v s2 he;split at h
    case h_2=>cases h
    rename_i L1 hp;obtain⟨d1,d2,d3,d4⟩:=dG he;obtain⟨b1,b2⟩:=iM is _ _ _ _ _ _ h;have WR:∀a,Fm N D L a -> Region.wanted o (yielded ops a.tmps)=true /\ s1.h=s.h /\ s1.cnt=s.cnt:=λ a hF=>cz TW hF (λ p hp=>iN p (b2 p (d2 p hp)));refine λ Of a hF=>?_;obtain⟨c1,c2,c3⟩:=WR a hF;have RU:=Oz he (a4.trans hw);refine(Bq (v:=v) hs YD DO (λ a hF=>hF.put hp) (λ a Xw=>.inl ⟨(WR a Xw).1,λ X w aT hB=>?_⟩) SL (.inl aey)
     (jm hs SL hR is _ b' L1 L' s2 s' h (by rw[RU,c2];exact hh) (by rw[d3,a3];exact hr) (d4.trans (a4.trans hw)) heq iN hk):TD P N D F w0 ops hards Rd (fuel+is.length+1) b L H Q) Of a hF
    have RS:=zm aT;have Vf:s1.h=H:=by rw[c2];exact hh
    obtain⟨w1,e1,e2,e3,e4,e5⟩:=gG (w:=w) (F:=X++F) he (λ p hp=>heq p (b1 p hp)) (λ p hp=>iN p (b2 p hp)) (by rw[Vf];exact RS) (by rw[a3,hr];exact λ y hy=>aav _ (hR y hy)) (λ e=>by rw[a4,hw] at e;cases e);obtain rfl:=e5 (a4.trans hw);unfold dt;rw[Xw.exec g_,e1];exact⟨rfl,aT,hB⟩
   ·split at h
    case h_2=>cases h
    rename_i v s2 he;split at h
    case h_2=>cases h
    rename_i L1 hp;obtain⟨d1,d2,d3,d4⟩:=dG he;obtain⟨b1,b2⟩:=iM is _ _ _ _ _ _ h;have WR:∀a,Fm N D L a -> Region.wanted o (yielded ops a.tmps)=true /\ s1.h=s.h /\ s1.cnt=s.cnt:=λ a hF=>cz TW hF (λ p hp=>iN p (b2 p (d2 p hp)));have hvo:∀a,Fm N D L a -> ∀H',(∀x∈Rd,x∈H') -> VO P ops F w0 o v a H':=λ a Xw H' Sa=>.inl ⟨(WR a Xw).1,λ X w aT hB=>by
     obtain⟨w1,e1,e2,e3,e4,e5⟩:=gG (w:=w) (F:=X++(H'++F)) he (λ p hp=>heq p (b1 p hp)) (λ p hp=>iN p (b2 p hp)) aT (λ y hy=>by
      rcases List.mem_append.1 hy with hy|hy
      ·exact aav _ (aaw _ (Sa y hy))
      ·exact aav _ (aav _ (hR y (by rw[<- hr,<- a3];exact hy)))) (λ e=>by rw[a4,hw] at e;cases e)
     obtain rfl:=e5 (a4.trans hw);unfold dt;rw[Xw.exec g_,e1];exact⟨rfl,aT,hB⟩⟩
    refine λ Of a hF=>?_;obtain⟨c1,c2,c3⟩:=WR a hF;exact(Bq (v:=v) hs YD DO (λ a hF=>hF.put hp) (λ a Xw=>hvo a Xw H SL) SL (.inr hvo)
     (jm hs SL hR is _ b' L1 L' _ s' h (by rw[<- hh,<- c2]) (by rw[<- hr,<- a3]) (d4.trans (a4.trans hw)) heq iN hk):TD P N D F w0 ops hards Rd (fuel+is.length+1) b L H Q) Of a hF
theorem sO{H Rd:HL}(ix:List Nat)(h:ix.filterMap (H[·]?)=Rd):∀x∈Rd,x∈H:=by
 subst h;intro x hx;obtain⟨i,_,hi⟩:=List.mem_filterMap.1 hx;exact List.mem_of_getElem? hi
theorem TD.all(rs:List Nat)(hr:jA ops.toList listed=rs)(At:rs≠[])(Rz:Nat)(hf:fuel=Rz+1)
  (h:∀i∈rs,∀a,Fm N D L a -> Closed ops ⟨bn listed i true⟩ -> OPJ P ops F w0 hards Rd i a H (JJ P ops Q F w0 hards Rd Rz ⟨bn listed i true⟩)):TD P N D F w0 ops hards Rd fuel listed L H Q:=by
 subst hf;intro Of a hF;have Wz:=(lJ ops listed).trans hr;refine⟨λ e=>absurd (Wz.symm.trans e) At,λ i hi=>?_⟩;rw[nB];refine h i (Wz ▸ hi) a hF ?_;rw[<- nB];exact Of.set hi
theorem zn{i:Nat}{R:HL}{hints:List Hint}{dst:Option Tmp}{f:FuncId}{args:Array Value}{H1:HL}{E:List Nat}{Ob:List Prop}{o:Oper}(ho:ops.toList[i]?=some o){Hp Hr:HL}{Rv:Value -> HL -> Prop}
  (h:∀n0,nA P n0 N ops.toList i L H R hints=some (dst,f,args,H1,E,E,Ob)) (hR:∀y∈R,y∈F) (iN:AllP Ob) (oF:(Hp++Hr).Perm H1) (hc:Sp P f args Hp (Hr++F) Rv) (a:Act) (hF:Fm N D L a) :
  Region.wanted o (yielded ops a.tmps)=true /\ ∀w,Rel (H++F) w -> Below 0 w0 w -> dt P o a w λ u w'=>∃H',Rv u H' /\ Rel ((H'++Hr)++F) w' /\ Below 0 w w':=by
 have key:∀n0,∃s s',jk ops.toList o L ⟨H,R,hints,0,[],[],true⟩=some (true,s) /\ iJ o.op L=true /\ ev P n0 o (fA L) s=some (.enter f args,s') /\ s'.h=H1 /\ s'.eq.map (·.1)=E /\ s'.eq.map (·.2)=E /\ s'.ob=Ob:=λ n0=>by
  obtain⟨o',s,s',DO,TW,g_,Uc,_,hh,e1,e2,e3⟩:=iL (h n0);obtain rfl:o'=o:=Option.some.inj (DO.symm.trans ho);exact⟨s,s',TW,g_,Uc,hh,e1,e2,e3⟩
 obtain⟨s,s',TW,g_,Uc,hh,e1,e2,e3⟩:=key 0;obtain⟨d1,d2,d3,d4⟩:=dG Uc;refine⟨(cz TW hF (λ p hp=>AllP.mem iN p (by rw[<- e3];exact d2 p hp))).1,λ w aT hB=>?_⟩;obtain⟨s,s',TW,g_,Uc,hh,e1,e2,e3⟩:=key w.heap.size;obtain⟨a1,a2,a3,a4⟩:=bL TW;obtain⟨d1,d2,d3,d4⟩:=dG Uc;have RW:∀p∈s'.ob,p:=by rw[e3];exact AllP.mem iN
 obtain⟨c1,c2,c3⟩:=cz TW hF (λ p hp=>RW p (d2 p hp));obtain⟨w1,r1,r2,r3,r4,r5⟩:=gG (w:=w) (F:=F) Uc (fR e1 e2) RW (by rw[c2];exact aT) (by rw[a3];exact hR) (λ _=>by rw[c3];rfl);unfold dt;rw[hF.exec g_,r1];rw[hh] at r2;refine(hc w1 (by rw[<- aaC];exact r2.perm (oF.append_right F))).mono ?_;rintro e w2 ⟨v,H',rfl,hv,SB,Uy⟩;exact⟨H',hv,by rw[aaC];exact SB,r3.trans Uy⟩
theorem TD.one(i:Nat)(hr:jA ops.toList listed=[i])(Rz:Nat)(hf:fuel=Rz+1)
  (h:∀a,Fm N D L a -> Closed ops ⟨bn listed i true⟩ -> OPJ P ops F w0 hards Rd i a H (JJ P ops Q F w0 hards Rd Rz ⟨bn listed i true⟩)):TD P N D F w0 ops hards Rd fuel listed L H Q :=
 TD.all [i] hr (by simp) Rz hf λ j hj a hF Of=>by
  obtain rfl:j=i:=by simpa using hj
  exact h a hF Of
theorem OPJ.perm{hards:List Nat}{Rd:HL}{i:Nat}{a:Act}{H H':HL}{K K':Act -> HL -> Prop}(hK:∀a H1 H2,H1.Perm H2 -> K a H1 -> K' a H2)(hp:H.Perm H')(h:OPJ P ops F w0 hards Rd i a H K):OPJ P ops F w0 hards Rd i a H' K':=by
 unfold OPJ at h ⊢;cases ho:ops[i]? with
 | none=>rw[ho] at h;exact h
 | some o =>
  rw[ho] at h;simp only at h ⊢;split
  ·rename_i hw;rw[if_pos hw] at h;intro w hR hB;refine eZ (h w (hR.perm (hp.append_right F)) hB) ?_;rintro u w' ⟨H1,⟨s1,s2⟩,k1,k2,k3⟩
   by_cases hi:i∈hards
   ·exact⟨H1,⟨λ e=>absurd hi e,s2⟩,hK _ _ _ (List.Perm.refl _) k1,k2,k3⟩
   ·obtain⟨X,rfl⟩:=s1 hi;have hpx:(X++H).Perm (X++H'):=hp.append_left X;exact⟨X++H',⟨λ _=>⟨X,rfl⟩,λ e=>absurd e hi⟩,hK _ _ _ hpx k1,k2.perm (hpx.symm.append_right F),k3⟩
  ·rename_i hw;rw[if_neg hw] at h;exact hK _ _ _ hp h
theorem JJ.perm{hards:List Nat}{Rd:HL}:∀ (fuel:Nat) (listed:Array Bool) (a:Act) (H H':HL),H.Perm H' -> JJ P ops Q F w0 hards Rd fuel listed a H -> JJ P ops Q F w0 hards Rd fuel listed a H'
 | 0,listed,a,H,H',hp,h=>⟨h.1,λ w hR hB=>h.2 w (hR.perm (hp.append_right F)) hB⟩
 | fuel+1,listed,a,H,H',hp,h=>⟨λ e w hR hB=>h.1 e w (hR.perm (hp.append_right F)) hB,λ i hi=>OPJ.perm (λ a H1 H2 hp h=>JJ.perm fuel _ a H1 H2 hp h) hp (h.2 i hi)⟩
theorem Mz(i j:Nat)(hr:jA ops.toList listed=[i,j])(Rz:Nat)(hf:fuel=Rz+1)
  (h1:∀a,Fm N D L a -> Closed ops ⟨bn listed i true⟩ -> OPJ P ops F w0 hards Rd i a H (JJ P ops Q F w0 hards Rd Rz ⟨bn listed i true⟩))
  (h2:∀a,Fm N D L a -> Closed ops ⟨bn listed j true⟩ -> OPJ P ops F w0 hards Rd j a H (JJ P ops Q F w0 hards Rd Rz ⟨bn listed j true⟩)):TD P N D F w0 ops hards Rd fuel listed L H Q :=
 TD.all [i,j] hr (by simp) Rz hf λ m hm a hF Of=>by
  have:m=i \/ m=j:=by simpa using hm
  rcases this with rfl|rfl
  ·exact h1 a hF Of
  ·exact h2 a hF Of
end
structure Enc(α:Type) where
 w:Nat
 cell:α -> Nat -> Value
 dflt:α
section
variable {α:Type} (e:Enc α)
def aQ(l:List α):Nat -> Nat -> Value:=λ i k=>e.cell (l.getD i e.dflt) k
def ar(l:List α):List Value:=l.flatMap λ x=>(List.range e.w).map (e.cell x)
theorem aJ(l:List α):(ar e l).length=l.length*e.w:=by
 induction l with
 | nil=>simp[ar]
 | cons x l ih=>simp only[ar,List.flatMap_cons,abi,List.length_map,List.length_range,abr,Nat.succ_mul] at ih ⊢;omega
theorem aP(l l':List α):ar e (l++l')=ar e l++ar e l':=by simp[ar]
theorem Br(l:List α):∀n,n <= l.length -> bD e.w (aQ e l) n=ar e (l.take n)
 | 0,_=>by simp[bD,ar]
 | n+1,h=>by
  rw[bD,Br l n (by omega),List.take_succ_eq_append_getElem (by omega),aP];congr 1;simp[ar,aQ,abt (show n<l.length by omega)]
theorem gH(l:List α):bD e.w (aQ e l) l.length=ar e l:=by rw[Br e l _ (aa0 _),List.take_length]
def SlIs(T:TypeId)(l:List α)(A:Option Addr)(cap:Nat)(Hl:HL):Prop :=
 (A=none /\ cap=0 /\ l=[] /\ Hl=[]) \/ ∃b o full,A=some ⟨b,o*e.w,none⟩ /\ Hl=[(b,.rows e.w (o+cap) (aQ e full) T (0,0))] /\ full.length=o+cap /\ l.length <= cap /\ (full.drop o).take l.length=l
def bB:Option Addr -> Prop
 | none=>True
 | some a=>a.off=0
theorem SlIs.nil(T:TypeId):SlIs e T [] none 0 []:=.inl ⟨rfl,rfl,rfl,rfl⟩
end
def kW:List Value -> Nat -> List Value -> List Value
 | c,_,[]=>c
 | c,o,v::r=>kW (c.set o v) (o+1) r
theorem mM:∀ (news c:List Value) (o:Nat),o+news.length <= c.length -> ∀j,(kW c o news)[j]?=if o <= j /\ j<o+news.length then news[j-o]? else c[j]?
 | [],c,o,_,j=>by rw[kW,if_neg (by simp only[List.length_nil];omega)]
 | v::r,c,o,h,j=>by
  simp only[abr] at h;rw[kW,mM r _ (o+1) (by simp;omega) j]
  by_cases h1:o+1 <= j /\ j<o+1+r.length
  ·rw[if_pos h1,if_pos (by simp only[abr];omega)];obtain⟨d,rfl⟩:∃d,j=o+1+d:=⟨j-(o+1),by omega⟩;rw[show o+1+d-o=d+1 by omega,List.getElem?_cons_succ];congr 1;omega
  ·rw[if_neg h1,List.getElem?_set]
   by_cases h2:o=j
   ·subst h2;rw[if_pos rfl,if_pos (by omega),if_pos (by simp only[abr];omega)];simp
   ·rw[if_neg h2,if_neg (by simp only[abr];omega)]
theorem iO(b:Nat):∀ (news:List Value) (o:Nat) (w:World) (c:List Value) (ty:TypeId) (fz:Nat × Nat),w.heap[b]?=some (.cells ⟨c⟩ ty fz) -> (w.setCells b o news).heap[b]?=some (.cells ⟨kW c o news⟩ ty fz)
 | [],o,w,c,ty,fz,h=>h
 | v::r,o,w,c,ty,fz,h=>by
  rw[World.setCells,kW];refine iO b r (o+1) _ _ ty fz ?_;simp only[World.setCell,Array.getElem?_modify,if_true,h,Option.map_some];simp
theorem iP(b:Nat):∀ (news:List Value) (o:Nat) (w:World) (k:Nat),k≠b -> (w.setCells b o news).heap[k]?=w.heap[k]?
 | [],o,w,k,h=>rfl
 | v::r,o,w,k,h=>by
  rw[World.setCells,iP b r (o+1) _ k h];exact Below.heap_setCell _ _ _ _ h
theorem iQ(b:Nat):∀ (news:List Value) (o:Nat) (w:World),Below 0 w (w.setCells b o news)
 | [],o,w=>Below.refl _ _
 | v::r,o,w=>((Below.refl 0 w).setCell (aa9 _) v).trans (iQ b r (o+1) _)
theorem gX(n c:Nat)(h:c<n):Builtin.nextslicecap n c <= 2*n+192:=by
 unfold Builtin.nextslicecap;split
 ·omega
 ·split
  ·omega
  ·simp only[Builtin.growBy]
   repeat' split
   all_goals omega
section
variable {α:Type} {e:Enc α} {P:Program} {t tx ty T:TypeId} {inf:TypeInfo} {z:Value}
structure EncOk(e:Enc α)(P:Program)(T:TypeId)(inf:TypeInfo)(z:Value):Prop where
 info:P.info? T=some inf
 zero:inf.zero=some z
 size:inf.size=e.w
 zsize:z.cells.size=e.w
 zcell:∀k,k<e.w -> z.cells[k]?=some (e.cell e.dflt k)
 one:∀x k,(e.cell x k).oneCell'=true
 bytes:inf.bytes <= 1000
theorem kX(ok:EncOk e P T inf z)(n:Nat):(Builtin.zeroCells z.cells n).toList=ar e (List.replicate n e.dflt):=by
 unfold Builtin.zeroCells;rw[wa,ok.zsize];have h1:=gH e (List.replicate n e.dflt);rw[List.length_replicate] at h1;rw[<- h1];show bD _ _ _=_;refine ur λ i k hi hk=>?_;have h2:=ok.zcell k hk;simp only[aQ,aaJ,List.getElem?_replicate,Array.getD_eq_getD_getElem?,h2];split <;> rfl
theorem CV(ok:EncOk e P T inf z)(ht:P.underlying t=some (.slice T)){l:List α}{A:Option Addr}{cap:Nat}{Hl G:HL}{w:World}(h:SlIs e T l A cap Hl)(hR:Rel (Hl++G) w)(src:List α)(x:Value)
  (hs:Src P inf.size tx x src.length (ar e src) w) (hb:l.length+src.length <= 100000000) :
  ∃A' f_ q_ w',(Builtin.append_ #[t,tx] ty #[.slice A l.length cap,x]).run P w=.ok (.slice A' (l.length+src.length) f_) w' /\ (SlIs e T (l++src) A' f_ q_ /\ (bB A -> bB A')) /\ Rel (q_++G) w' /\ Below 0 w w':=by
 have XY:=ok.bytes;have SH:∀c,c<l.length+src.length -> Builtin.nextslicecap (l.length+src.length) c*inf.bytes <= 281474976710656:=λ c hc=>by
  have h1:=gX (l.length+src.length) c hc;have h2:Builtin.nextslicecap (l.length+src.length) c*inf.bytes <= (2*100000000+192)*1000:=Nat.mul_le_mul (by omega) XY;omega
 have grow:∀ (hg:cap<l.length+src.length) (hold:(Builtin.firstCells inf.size l.length (.slice A l.length cap)).run P w.drew=.ok (ar e l).toArray w.drew),∃A' f_ q_ w',(Builtin.append_ #[t,tx] ty #[.slice A l.length cap,x]).run P w=.ok (.slice A' (l.length+src.length) f_) w' /\ (SlIs e T (l++src) A' f_ q_ /\ (bB A -> bB A')) /\ Rel (q_++G) w' /\ Below 0 w w':=by
  intro hg hold;have iD:=run_append_grow_src (P:=P) w t tx ty T inf z ht ok.info ok.zero A l.length cap (ar e l) hold x src.length (ar e src) hs hg (by omega) (SH cap hg);have To:=grownCap_ge w (l.length+src.length) cap T;generalize grownCap w (l.length+src.length) cap T=nc at *;refine⟨_,nc,[(w.heap.size,.rows e.w (0+nc) (aQ e (l++src++List.replicate (nc-(l.length+src.length)) e.dflt)) T (0,0))],_,iD,⟨.inr ⟨w.heap.size,0,l++src++List.replicate (nc-(l.length+src.length)) e.dflt,by simp,rfl,by simp;omega,by simp;omega,by rw[List.drop_zero,List.take_append_of_le_length (by simp),List.take_of_length_le (by simp)]⟩,λ _=>rfl⟩,?_,?_⟩
  ·have SB:Rel G w:=hR.drop;have:=(Rel.cons (.rows e.w (0+nc) (aQ e (l++src++List.replicate (nc-(l.length+src.length)) e.dflt)) T (0,0)) (o:=.cells ((ar e l++ar e src).toArray++Builtin.zeroCells z.cells (nc-(l.length+src.length))) T (0,0)) ?_ (SB.world (w':=w.drew) rfl))
   ·exact this
   ·show Obj.cells _ _ _=_;congr 1;apply Array.ext';show bD _ _ _=_;have hl:0+nc=(l++src++List.replicate (nc-(l.length+src.length)) e.dflt).length:=by simp;omega
    rw[hl,gH,aP,aP,Array.toList_append,kX ok]
  ·exact⟨rfl,rfl,rfl,by simp,λ k hk=>by omega⟩
 rcases h with ⟨rfl,rfl,rfl,rfl⟩|⟨b,o,full,rfl,rfl,RZ,hle,hl⟩
 ·-- nil
  rcases Nat.eq_zero_or_pos src.length with h0|h0
  ·obtain rfl:src=[]:=abR h0;refine⟨none,0,[],w,?_,⟨.inl ⟨rfl,rfl,by simp,rfl⟩,λ h=>h⟩,hR,Below.refl _ _⟩;have hc:(Builtin.firstCells inf.size 0 x).run P w=.ok #[] w:=hs.cells;rcases hs.kind with ⟨e',hk⟩|hk <;> simp[Builtin.append_,run_underlying ht,run_underlying hk,Go.sizeOf,typeInfo,ok.info,hs.len,hc]
  ·exact grow (by simp;omega) (by simp[ar];exact run_firstCells_none w.drew inf.size 0 0 0)
 ·have Sr:=hR.holds _ (aaw G (aax));simp only[Blk.den] at Sr;have TM:(bD e.w (aQ e full) (o+cap)).length=(o+cap)*e.w:=cU _ _ _;have ID:bD e.w (aQ e full) (o+cap)=ar e full:=by rw[<- RZ];exact gH e full
  by_cases AI:l.length+src.length <= cap
  ·-- there is room
   have IT:=ok.size;have XS:(ar e src).length=src.length*e.w:=aJ e src;have Sa:o*e.w+l.length*inf.size+(ar e src).length <= (o+cap)*e.w:=by
    rw[XS,IT,<- Nat.add_mul,<- Nat.add_mul];exact Nat.mul_le_mul_right _ (by omega)
   have OF:∀j,j<(ar e src).length -> (w.cell? ⟨b,o*e.w+l.length*inf.size+j,none⟩).isSome=true:=λ j hj=>by
    simp[World.cell?,Sr,TM];omega
   have VY:∀j,j<(ar e src).length -> w.frozen? ⟨b,o*e.w+l.length*inf.size+j,none⟩=false:=λ j hj=>by simp[World.frozen?,Sr]
   have iD:=run_append_room_src (P:=P) w t tx ty T inf ht ok.info b (o*e.w) l.length cap x src.length (ar e src) hs AI OF VY;have V6:=iO b (ar e src) (o*e.w+l.length*inf.size) w _ _ _ Sr;have TP:kW (bD e.w (aQ e full) (o+cap)) (o*e.w+l.length*inf.size) (ar e src)=ar e (full.take (o+l.length)++src++full.drop (o+l.length+src.length)):=by
    apply List.ext_getElem?;intro j;rw[mM _ _ _ (by rw[TM];exact Sa),ID,aP,aP];have c1:(ar e (full.take (o+l.length))).length=(o+l.length)*e.w:=by rw[aJ,abk];congr 1;omega
    have c0:o*e.w+l.length*inf.size=(o+l.length)*e.w:=by rw[IT,<- Nat.add_mul]
    have Si:ar e full=ar e (full.take (o+l.length))++ar e (full.drop (o+l.length)):=by rw[<- aP,acn]
    have S7:ar e (full.drop (o+l.length))=ar e ((full.drop (o+l.length)).take src.length)++ar e (full.drop (o+l.length+src.length)):=by
     rw[<- aP,show o+l.length+src.length=(o+l.length)+src.length from rfl,<- List.drop_drop (i:=src.length) (j:=o+l.length),acn]
    have c2:(ar e ((full.drop (o+l.length)).take src.length)).length=src.length*e.w:=by rw[aJ,abk,abq];congr 1;omega
    rw[c0]
    by_cases h1:j<(o+l.length)*e.w
    ·rw[if_neg (by omega),Si,aaC,abD (by omega),abD (by omega)]
    ·by_cases h2:j<(o+l.length)*e.w+src.length*e.w
     ·rw[if_pos (by omega),aaC,abG (by omega),abD (by omega),c1]
     ·rw[if_neg (by omega),Si,S7,aaC,abG (by omega),abG (by omega),abG (by omega),abG (by omega),c1,c2,XS]
   have V0:(full.take (o+l.length)++src++full.drop (o+l.length+src.length)).length=o+cap:=by simp;omega
   refine⟨_,cap,[(b,.rows e.w (o+cap) (aQ e (full.take (o+l.length)++src++full.drop (o+l.length+src.length))) T (0,0))],_,iD,⟨.inr ⟨b,o,_,rfl,rfl,V0,by simp;omega,?_⟩,λ h=>h⟩,?_,iQ _ _ _ _⟩
   ·have h1:full.take (o+l.length)=full.take o++l:=by rw[List.take_add,hl]
    rw[h1,aaC,aaC,List.drop_append_of_le_length (by simp;omega),List.drop_eq_nil_of_le (by rw[abk];omega),List.nil_append,<- aaC];rw[List.take_append_of_le_length (by simp)];exact List.take_of_length_le (by simp)
   ·refine⟨?_,by have:=hR.nodup;simpa using this⟩;intro y hy;rcases List.mem_cons.1 hy with rfl|hy
    ·rw[V6,TP];simp only[Blk.den];rw[<- V0,gH]
    ·have At:y.1≠b:=by
      have:=hR.nodup;simp only[List.cons_append,List.nil_append,List.map_cons,List.nodup_cons] at this;intro e1;exact this.1 (by rw[<- e1];exact List.mem_map_of_mem hy)
     rw[iP b _ _ _ _ At];exact hR.holds y (aav _ hy)
  ·refine grow (by omega) ?_;refine run_firstCells_some w.drew inf.size l.length ⟨b,o*e.w,none⟩ l.length cap (ar e l) (by rw[aJ,ok.size]) ?_;intro j u hj;have Ub:j<(ar e l).length:=(List.getElem?_eq_some_iff.1 hj).1;rw[aJ] at Ub;have K_:ar e l=((ar e full).drop (o*e.w)).take (l.length*e.w):=by
    have h1:ar e full=ar e (full.take o)++(ar e l++ar e ((full.drop o).drop l.length)):=by
     rw[<- aP,<- aP];congr 1
     conv=>lhs;rw[<- acn o full]
     congr 1
     conv=>lhs;rw[<- acn l.length (full.drop o)]
     rw[hl]
    have c1:(ar e (full.take o)).length=o*e.w:=by rw[aJ,abk];congr 1;omega
    rw[h1,List.drop_append_of_le_length (by omega),List.drop_eq_nil_of_le (by omega),List.nil_append,List.take_append_of_le_length (by rw[aJ];exact aa0 _),List.take_of_length_le (by rw[aJ];exact aa0 _)]
   rw[Addr.add_lit];show World.cell? w ⟨b,o*e.w+j,none⟩=some u;simp only[World.cell?,Sr,ID];rw[K_,acm,if_pos (by omega),ack] at hj;simpa using hj
theorem oq{N:Nat}{D:List Deferred}{F:HL}{L:FL}{H:HL}(ok:EncOk e P T inf z){o:Oper}{a1 a2:Operand}(H_:o.op=.call { callee:=.builtin .append,args:=#[a1,a2],argTypes:=#[t,tx] })(ht:P.underlying t=some (.slice T))
  {l src:List α} {A:Option Addr} {cap n:Nat} {Hl G:HL} {x:Value} (hi:(gB L a1 && gB L a2)=true) (h1:fA L a1=.slice A n cap) (hn:n=l.length) (h2:fA L a2=x) (oF:(Hl++G).Perm H) (Tk:SlIs e T l A cap Hl)
  (hs:∀w,Rel (H++F) w -> Src P inf.size tx x src.length (ar e src) w) (hb:l.length+src.length <= 100000000) (a:Act) (hF:Fm N D L a) (w:World) (hR:Rel (H++F) w) :
  dt P o a w λ u w'=>∃y:Option Addr × Nat × HL,(u=.slice y.1 (n+src.length) y.2.1 /\ (SlIs e T (l++src) y.1 y.2.1 y.2.2 /\ (bB A -> bB y.1))) /\ Rel ((y.2.2++G)++F) w' /\ Below 0 w w':=by
 subst hn;simp only[ab1] at hi;have e1:=(hF.eval hi.1).trans h1;have e2:=(hF.eval hi.2).trans h2;have D_:Rel (Hl++(G++F)) w:=by rw[<- aaC];exact hR.perm (oF.append_right F)
 obtain⟨A',f_,q_,w',r1,r2,r3,r4⟩:=CV (ty:=o.type) ok ht Tk D_ src x (hs w hR) hb;unfold dt;have iD:(execOp a.eval o).run P w=.ok (.value (.slice A' (l.length+src.length) f_)) w':=by
  simp[execOp,H_,resolve,invoke,builtin,ace,e1,e2,r1]
 rw[iD];exact⟨(A',f_,q_),⟨rfl,r2⟩,by rw[aaC];exact r3,r4⟩
theorem pW{H F:HL}{w:World}(ok:EncOk e P T inf z){e':TypeId}(hk:P.underlying tx=some (.slice e')){sb c:Nat}{src:List α}{ty:TypeId}{fz:Nat × Nat}(p:Nat)(h:H[p]?=some (sb,.lit (ar e src) ty fz))(hR:Rel (H++F) w):Src P inf.size tx (vS sb 0 src.length c) src.length (ar e src) w:=by
 refine Src.ofSlice w hk _ _ _ _ (by rw[aJ,ok.size]) ?_ ?_
 ·intro j u hj;have hb:=hR.holds _ (aaw F (List.mem_of_getElem? h));simp only[Blk.den] at hb;rw[Addr.add_lit];simp[World.cell?,hb,hj]
 ·intro u hu;simp only[ar,List.mem_flatMap,List.mem_map] at hu;obtain⟨x,_,k,_,rfl⟩:=hu;exact ok.one x k
end
section
variable {r:Option Nat} {P:Program} {N:Nat} {D:List Deferred} {F:HL} {w0:World} {ops:Array Oper} {i:Nat} {L:FL} {H:HL} {Q:Exit -> Act -> World -> Prop}
def eF(H:HL):List (Nat × Obj):=H.map λ x=>(x.1,x.2.den)
theorem Rel.den{H H':HL}{w:World}(e:eF H=eF H')(h:Rel H w):Rel H' w:=by
 have h1:H'.map (·.1)=H.map (·.1):=by
  have:=congrArg (List.map (·.1)) e;simpa [eF,Function.comp_def] using this.symm
 refine⟨λ x hx=>?_,by have:=h.nodup;rw[h1];exact this⟩;have:(x.1,x.2.den)∈eF H:=e ▸ List.mem_map_of_mem hx;obtain⟨y,hy,e2⟩:=List.mem_map.1 this;have h3:=h.holds y hy;simp only[Prod.mk.injEq] at e2;rw[<- e2.1,<- e2.2];exact h3
theorem Rel.denA{A A' F:HL}{Ts:List HL}{w:World}(e:eF A=eF A')(h:Rel (ap A Ts++F) w):Rel (ap A' Ts++F) w :=
 h.den (by simp only[eF,List.map_append] at e ⊢;rw[e])
end
theorem OPJ.den{P:Program}{F:HL}{w0:World}{ops:Array Oper}{hards:List Nat}{Rd:HL}{i:Nat}{a:Act}{H H':HL}{K K':Act -> HL -> Prop}(hK:∀a H1 H2,eF H1=eF H2 -> K a H1 -> K' a H2)(hp:eF H=eF H')(h:OPJ P ops F w0 hards Rd i a H K):OPJ P ops F w0 hards Rd i a H' K':=by
 have hx:∀X:HL,eF (X++H)=eF (X++H'):=λ X=>by simp only[eF,List.map_append] at hp ⊢;rw[hp]
 have hf:∀ (A B:HL) (w:World),eF A=eF B -> Rel (A++F) w -> Rel (B++F) w:=λ A B w e h=>h.den (by simp only[eF,List.map_append] at e ⊢;rw[e]);unfold OPJ at h ⊢;cases ho:ops[i]? with
 | none=>rw[ho] at h;exact h
 | some o =>
  rw[ho] at h;simp only at h ⊢;split
  ·rename_i hw;rw[if_pos hw] at h;intro w hR hB;refine eZ (h w (hf _ _ _ hp.symm hR) hB) ?_;rintro u w' ⟨H1,⟨s1,s2⟩,k1,k2,k3⟩
   by_cases hi:i∈hards
   ·exact⟨H1,⟨λ e=>absurd hi e,s2⟩,hK _ _ _ rfl k1,k2,k3⟩
   ·obtain⟨X,rfl⟩:=s1 hi;exact⟨X++H',⟨λ _=>⟨X,rfl⟩,λ e=>absurd e hi⟩,hK _ _ _ (hx X) k1,hf _ _ _ (hx X) k2,k3⟩
  ·rename_i hw;rw[if_neg hw] at h;exact hK _ _ _ hp h
theorem JJ.den{P:Program}{F:HL}{w0:World}{ops:Array Oper}{Q:Exit -> Act -> World -> Prop}{hards:List Nat}{Rd:HL}:∀ (fuel:Nat) (listed:Array Bool) (a:Act) (H H':HL),eF H=eF H' -> JJ P ops Q F w0 hards Rd fuel listed a H -> JJ P ops Q F w0 hards Rd fuel listed a H'
 | 0,listed,a,H,H',hp,h=>⟨h.1,λ w hR hB=>h.2 w (hR.den (by simp only[eF,List.map_append] at hp ⊢;rw[hp])) hB⟩
 | fuel+1,listed,a,H,H',hp,h=>⟨λ e w hR hB=>h.1 e w (hR.den (by simp only[eF,List.map_append] at hp ⊢;rw[hp])) hB,λ i hi=>OPJ.den (λ a H1 H2 hp h=>JJ.den fuel _ a H1 H2 hp h) hp (h.2 i hi)⟩
theorem TD.den{P:Program}{N:Nat}{D:List Deferred}{F:HL}{w0:World}{ops:Array Oper}{hards:List Nat}{Rd:HL}{fuel:Nat}{listed:List Bool}{L:FL}{Q:Exit -> Act -> World -> Prop}{A:HL}{Ts:List HL}(A':HL)(e:eF A=eF A')(h:TD P N D F w0 ops hards Rd fuel listed L (ap A' Ts) Q):TD P N D F w0 ops hards Rd fuel listed L (ap A Ts) Q:=by
 intro Of a hF;refine JJ.den _ _ _ _ _ ?_ (h Of a hF);simp only[eF,List.map_append] at e ⊢;rw[e]
theorem SlIs.open0{α:Type}{e:Enc α}{T:TypeId}{l:List α}{A:Option Addr}{cap:Nat}{Hl:HL}(h:SlIs e T l A cap Hl)(hz:bB A)(hw:0<e.w)(hl:0<l.length):∃b rest,A=some ⟨b,0,none⟩ /\ Hl=[(b,.rows e.w cap (aQ e (l++rest)) T (0,0))] /\ l.length <= cap:=by
 rcases h with ⟨_,_,rfl,_⟩|⟨b,o,full,rfl,rfl,h3,h4,h5⟩
 ·simp at hl
 ·have ho:o=0:=by
   have h6:o*e.w=0:=hz;rcases Nat.mul_eq_zero.1 h6 with h|h
   ·exact h
   ·omega
  subst ho;refine⟨b,full.drop l.length,by rw[Nat.zero_mul],?_,h4⟩;have:l++full.drop l.length=full:=by
   conv=>lhs;lhs;rw[<- h5]
   rw[List.drop_zero,acn]
  rw[this,Nat.zero_add]
section
variable {r:Option Nat} {P:Program} {N:Nat} {D:List Deferred} {F:HL} {w0:World} {ops:Array Oper} {i:Nat} {L:FL} {Q:Exit -> Act -> World -> Prop} {A:HL} {Ts Uf:List HL} {x:Nat × Blk}
theorem zo{A:HL}{Ts Uf:List HL}{x:Nat × Blk}(jr:List Nat)(j:Nat)(hp:([j]++jr).isPerm (List.range Ts.length)=true)(hj:Ts[j]?=some [x])(hr:jr.filterMap (Ts[·]?)=Uf):(ap (x::A) Uf).Perm (ap A Ts):=by
 have h3:=fm Ts [j] jr hp;simp only[List.filterMap_cons,hj,List.filterMap_nil,hr] at h3;have h4:=h3.flatten;simp only[List.cons_append,List.nil_append,acb] at h4;show (x::(A++Uf.flatten)).Perm (A++Ts.flatten);refine List.Perm.trans ?_ (List.Perm.append_left A h4);exact(List.perm_middle (a:=x) (l₁:=A) (l₂:=Uf.flatten)).symm
theorem Fw{A:HL}{Ts Uf:List HL}(jp:List Nat)(hp:jp.isPerm (List.range Ts.length)=true)(e:jp.filterMap (Ts[·]?)=Uf):(ap A Uf).Perm (ap A Ts):=by
 have h3:=fm Ts jp [] (by simpa using hp);rw[e] at h3;simp only[List.filterMap_nil,List.append_nil] at h3;exact List.Perm.append_left A h3.flatten
end
open Go.Shelf
def YL(P:Program)(l:Nat)(args:Array Value)(H F:HL)(R:Bool -> HL -> Prop):Prop :=
 ∀w,Rel (H++F) w -> YieldAt (Wr none) 0 P l args w λ e W'=>∃b H',e=.returned (.bool b) /\ R b H' /\ Rel (H'++F) W' /\ Below 0 w W'
def It(P:Program)(g:FuncId)(lb:Array Value)(F:HL){α:Type}(encs:α -> Array Value)(xs:List α):Prop :=
 ∀ (X:HL) (l:Nat) (J:Nat -> HL -> Prop) (Jx:HL -> Prop) (H0:HL),(∀i x H Y,xs[i]?=some x -> J i H -> YL P l (encs x) H (Y++(X++F)) (λ b H'=>(b=true /\ J (i+1) H') \/ (b=false /\ Jx H'))) -> J 0 H0 ->
  Sp P g (#[.func (.yield l) #[] #[]]++lb) H0 (X++F) (λ _ H'=>J xs.length H' \/ Jx H')
def zp(P:Program)(n0 N:Nat)(ops:List Oper)(i:Nat)(L:FL)(H R:HL)(hints:List Hint):Option (Option Tmp × Nat × Array Value × List Prop) :=
 match ops[i]? with
 | none=>none
 | some o=>match jk ops o L ⟨H,R,hints,0,[],[],true⟩ with
  | some (true,s)=>match iJ o.op L,s.hints,s.eq with
   | true,[],[]=>match o.op with
    | .call c=>match c.callee with
     | .value f=>match fA L f with
      | .func (.yield l) cap bound=>match cap.toList,bound.toList with
       | [],[]=>some (o.dst,l,c.args.map (fA L),s.ob)
       | _,_=>none
      | _=>none
     | _=>none
    | _=>none
   | _,_,_=>none
  | _=>none
theorem zq{P:Program}{ρ:Operand -> Value}{o:Oper}{c:Call}{f:Operand}{l:Nat}(ho:o.op=.call c)(hc:c.callee=.value f)(hf:ρ f=.func (.yield l) #[] #[])(w:World) :
  (execOp ρ o).run P w=(Instr.yield l (c.args.map ρ)).run P w:=by
 simp[execOp,ho,resolve,hc,hf,Deferred.ofValue,invoke,ace,Result.andThen]
abbrev cF(d:Nat):Nat × Blk:=(d,.obj (.deferred (some [])))
abbrev coll(d:Nat):Deferred:={ target:=.collected d,args:=#[] }
theorem Rel.putObj{H F:HL}{w:World}{l:Nat}{b:Blk}(b':Blk)(h:Rel ((l,b)::H) w):Rel ((l,b')::H) (w.putObj l b'.den):=by
 have hl:=h.lt (aax);refine⟨λ x hx=>?_,by simpa using h.nodup⟩;rcases List.mem_cons.1 hx with rfl|hx
 ·exact World.putObj_heap_same hl
 ·have At:x.1≠l:=by
   have:=h.nodup;simp only[List.map_cons,List.nodup_cons] at this;intro e;exact this.1 (e ▸ List.mem_map_of_mem hx)
  exact(World.putObj_heap_other At).trans (h.holds x (aaA _ hx))
theorem dU{w:World}(l:Nat)(o:Obj):Below 0 w (w.putObj l o):=⟨rfl,rfl,rfl,by simp,λ k hk=>by omega⟩
theorem iw{w:World}(o:Obj):Below 0 w (w.alloc o):=⟨rfl,rfl,rfl,by simp,λ k hk=>by omega⟩
theorem Rel.alloc{H:HL}{w:World}(b:Blk)(h:Rel H w):Rel ((w.heap.size,b)::H) (w.alloc b.den):=Rel.cons b rfl h
def RQ{σ:Type}(F:HL)(w0:World)(Hx:σ -> HL)(I:σ -> Prop)(Ix:Code -> σ -> Prop):Exit -> Act -> World -> Prop
 | .normal,_,w=>∃s,I s /\ Rel (Hx s++F) w /\ Below 0 w0 w
 | .ret,_,w=>∃s,Ix .ret s /\ Rel (Hx s++F) w /\ Below 0 w0 w
 | .exit id,_,w=>∃s,Ix (.exit id) s /\ Rel (Hx s++F) w /\ Below 0 w0 w
 | _,_,_=>False
section
variable {P:Program} {N:Nat} {D:List Deferred} {F:HL} {w0:World} {L:FL} {Q:Exit -> Act -> World -> Prop}
def pJ:List Tmp -> List Value -> FL -> FL
 | p::ps,v::vs,L=>pJ ps vs ((p,v)::L)
 | _,_,L=>L
theorem Fm.zip:∀ (ps:List Tmp) (vs:List Value) (L:FL) (tmps:Array Value),(∀p∈ps,p<N) -> Fm N D L { tmps:=tmps,defers:=D } -> Fm N D (pJ ps vs L) { tmps:=(ps.zip vs).foldl (λ t (p,v)=>t.setIfInBounds p v) tmps,defers:=D }
 | p::ps,v::vs,L,tmps,hN,h=>by
  rw[pJ,List.zip_cons_cons,List.foldl_cons];refine Fm.zip ps vs _ _ (λ q hq=>hN q (aaA _ hq)) ?_;refine⟨by simpa using h.size,rfl,λ t u ht=>?_⟩;have hs:tmps.size=N:=h.size;have hp:=hN p aax;rw[List.lookup_cons] at ht;simp only
  by_cases e:t=p
  ·subst e;simp at ht;subst ht;rw[Array.getElem?_setIfInBounds];simp[hs,hp]
  ·have:(t == p)=false:=by simpa using e
   rw[this] at ht;rw[Array.getElem?_setIfInBounds,if_neg (λ e'=>e e'.symm)];exact h.has _ _ ht
 | [],vs,L,tmps,_,h=>by simpa [pJ] using h
 | _::_,[],L,tmps,_,h=>by simpa [pJ] using h
theorem TR.range{α σ τ:Type}{g:Operand}{ps:Array Tmp}{assign body:Code}{encs:α -> Array Value}{xs:List α}{gf:FuncId}{lb:Array Value}(hi:gB L g=true)(hg:fA L g=.func (.func gf) #[] lb)(eg:∀args w,(callFunc gf args).run P w=.ok (.enter gf args) w)
  (Hx:σ -> HL) (I:Nat -> σ -> Prop) (Ix:Code -> σ -> Prop) (La:τ -> FL) (Ha:τ -> HL) (Ia:Nat -> α -> τ -> Prop) (YA:∀x,(encs x).size=ps.size) (TX:(ps.toList.all λ p=>decide (p<N))=true)
  (x0:σ) (h0:I 0 x0) {A:HL} {Ts:List HL} (ip ir jp jr:List Nat) (hp:(ip++ir).isPerm (List.range A.length)=true) (hj:(jp++jr).isPerm (List.range Ts.length)=true) (Hr:HL) (Tr:List HL) (Zr:ir.filterMap (A[·]?)=Hr) (Zf:jr.filterMap (Ts[·]?)=Tr) (hH:ap (ip.filterMap (A[·]?)) (jp.filterMap (Ts[·]?))=Hx x0)
  (hit:It P gf lb (ap Hr Tr++F) encs xs)
  (z_:∀ (l i:Nat) (x:α) (s:σ) (Y:HL) (w1:World),xs[i]?=some x -> I i s -> TR (some l) P N [] (Y++(ap Hr Tr++F)) w1 (pJ ps.toList (encs x).toList L) (Hx s) assign (Exit.then (My N [] (Y++(ap Hr Tr++F)) w1 La Ha (Ia i x)) (λ _ _ _=>False)))
  (Ry:∀ (l i:Nat) (x:α) (t:τ) (Y:HL) (w1:World),xs[i]?=some x -> Ia i x t -> TR (some l) P N [] (Y++(ap Hr Tr++F)) w1 (La t) (Ha t) body (RQ (Y++(ap Hr Tr++F)) w1 Hx (I (i+1)) Ix))
  (Rx:∀ (d:Nat) (s:σ),I xs.length s -> EX N (coll d::D) F w0 L (cF d::(Hx s++ap Hr Tr)) Q .normal)
  (Rp:∀ (d:Nat) (c:Code) (s:σ),Ix c s -> TR none P N (coll d::D) F w0 L (cF d::(Hx s++ap Hr Tr)) c Q) :
  TR none P N D F w0 L (ap A Ts) (.rangeFunc g ps assign body) Q:=by
 intro a w hF hR hB;have Xl:Rel (Hx x0++(ap Hr Tr++F)) w:=by
  have h1:=lI A Ts ip ir jp jr hp hj;rw[Zr,Zf,hH] at h1;rw[<- aaC];exact hR.perm (h1.append_right F)
 refine wpIn_rangeFunc ?_;intro fn YR;obtain⟨rec,Rt⟩:∃rec:LoopState -> Option Code -> Loop,rec=λ st pe=>{ state:=st,pending:=pe,fn,tmps:=a.tmps,params:=ps,assign,body,defers:=w.heap.size }:=⟨_,rfl⟩;obtain⟨W1,Ze⟩:∃W1,(w.alloc (.deferred (some []))).alloc (.loop (rec .ready none))=W1:=⟨_,rfl⟩;have hB1:Below 0 w W1:=by rw[<- Ze];exact(iw _).trans (iw _)
 have Zh:Rel ((w.heap.size+1,Blk.obj (.loop (rec .ready none)))::cF w.heap.size::(Hx x0++(ap Hr Tr++F))) W1:=by
  rw[<- Ze];have h1:=(Xl.alloc (.obj (.deferred (some [])))).alloc (.obj (.loop (rec .ready none)));rw[World.size_alloc] at h1;exact h1
 refine⟨w.heap.size+1,[coll w.heap.size],W1,{ target:=.fn (.func gf) lb,args:=#[.func (.yield (w.heap.size+1)) #[] #[]] },W1,gf,#[.func (.yield (w.heap.size+1)) #[] #[]]++lb,W1,?_,?_,?_,?_,λ h=>(by cases h),?_⟩
 ·rw[<- Ze,Rt];exact run_enterLoop_outer _ _ _ _ _
 ·have To:a.eval g=.func (.func gf) #[] lb:=(hF.eval hi).trans hg;simp only[resolve,To];simp[Deferred.ofValue];rfl
 ·intro f' _;trivial
 ·simp[invoke,eg]
 ·refine jI ?_;obtain⟨l,hl⟩:∃l,w.heap.size+1=l:=⟨_,rfl⟩;rw[hl] at Zh ⊢;obtain⟨d,hd⟩:∃d,w.heap.size=d:=⟨_,rfl⟩;rw[hd] at Zh Rt ⊢;have key:=hit [] l (λ i H'=>∃s,I i s /\ H'=(l,Blk.obj (.loop (rec .ready none)))::cF d::Hx s) (λ H'=>∃c s,Ix c s /\ H'=(l,Blk.obj (.loop (rec .done (some c))))::cF d::Hx s)
   ((l,Blk.obj (.loop (rec .ready none)))::cF d::Hx x0) ?round ⟨x0,h0,rfl⟩ W1 Zh
  case round =>
   rintro i x H' Y hx ⟨s,hs,rfl⟩ W aT;have RS:Rel ((l,Blk.obj (.loop (rec .ready none)))::(cF d::(Hx s++(Y++(ap Hr Tr++F))))) W:=aT;have hlW:W.heap[l]?=some (.loop (rec .ready none)):=RS.holds _ aax;have hy:=run_yield (P:=P) (args:=encs x) hlW (by rw[Rt];exact YA x);rw[Rt] at hy;refine⟨fn,_,assign,body,hy,roundIn_of_wpIn (F:=Wr none) (n:=0) YR ?_⟩;have hFm:Fm N [] (pJ ps.toList (encs x).toList L) { tmps:=(ps.zip (encs x)).foldl (λ t (p,v)=>t.setIfInBounds p v) a.tmps,defers:=[] }:=by
    have h1:=Fm.zip (D:=[]) ps.toList (encs x).toList L a.tmps (λ p hp=>aci (List.all_eq_true.1 TX p hp)) ⟨hF.size,rfl,hF.has⟩;have e:(ps.zip (encs x)).foldl (λ t (p,v)=>t.setIfInBounds p v) a.tmps=(ps.toList.zip (encs x).toList).foldl (λ t (p,v)=>t.setIfInBounds p v) a.tmps:=by
     rw[<- Array.foldl_toList,Array.toList_zip]
    rw[e];exact h1
   have hRA:Rel (Hx s++(((l,Blk.obj (.loop (rec .ready none)))::cF d::Y)++(ap Hr Tr++F))) W:=by
    have:=RS;refine this.perm ?_;simp only[List.cons_append];refine List.perm_middle.trans ?_;refine List.Perm.cons _ ?_;exact List.perm_middle
   refine wpIn_mono (z_ l i x s ((l,Blk.obj (.loop (rec .ready none)))::cF d::Y) W hx hs _ W hFm hRA (Below.refl _ _)) ?_;intro e a1 Wa hq;cases e with
   | normal =>
    obtain⟨t,ht,m1,m2,m3⟩:=hq;have hRb:Rel ((l,Blk.obj (.loop (rec .ready none)))::(cF d::(Ha t++(Y++(ap Hr Tr++F))))) Wa:=by
     refine m2.perm ?_;simp only[List.cons_append];refine(List.Perm.trans ?_ List.perm_middle.symm);refine List.Perm.cons _ ?_;exact List.perm_middle.symm
    have hla:Wa.heap[l]?=some (.loop (rec .ready none)):=hRb.holds _ aax;refine⟨_,run_beginRound hla (by rw[Rt]),?_⟩;have hRc:=hRb.putObj (F:=[]) (.obj (.loop { rec .ready none with state:=.busy }));have SL:Rel (Ha t++(((l,Blk.obj (.loop { rec .ready none with state:=.busy }))::cF d::Y)++(ap Hr Tr++F))) (Wa.putObj l (.loop { rec .ready none with state:=.busy })):=by
     refine hRc.perm ?_;simp only[List.cons_append];refine List.perm_middle.trans ?_;refine List.Perm.cons _ ?_;exact List.perm_middle
    refine wpIn_mono (Ry l i x t ((l,Blk.obj (.loop { rec .ready none with state:=.busy }))::cF d::Y) W hx ht a1 _ m1 SL (m3.trans (dU _ _))) ?_;have fin:∀ (jump:Option Code) (s':σ) (W3:World),Rel (Hx s'++(((l,Blk.obj (.loop { rec .ready none with state:=.busy }))::cF d::Y)++(ap Hr Tr++F))) W3 -> Below 0 W W3 ->
      ∃v w',(Instr.endRound l jump).run P W3=.ok v w' /\ v=.bool jump.isNone /\ Rel (((l,Blk.obj (.loop (rec (if jump.isNone then .ready else .done) jump)))::cF d::Hx s')++(Y++([]++(ap Hr Tr++F)))) w' /\ Below 0 W w':=by
     intro jump s' W3 h3 hb3;have h4:Rel ((l,Blk.obj (.loop { rec .ready none with state:=.busy }))::(cF d::(Hx s'++(Y++(ap Hr Tr++F))))) W3:=by
      refine h3.perm ?_;simp only[List.cons_append];refine(List.Perm.trans ?_ List.perm_middle.symm);refine List.Perm.cons _ ?_;exact List.perm_middle.symm
     have U1:W3.heap[l]?=some (.loop { rec .ready none with state:=.busy }):=h4.holds _ aax;have iD:=run_endRound (P:=P) jump U1;refine⟨_,_,iD,rfl,?_,hb3.trans (dU _ _)⟩;have h5:=h4.putObj (F:=[]) (.obj (.loop (rec (if jump.isNone then .ready else .done) jump)));rw[Rt] at h5 ⊢;exact h5
    intro e2 a2 W3 RI;cases e2 with
    | normal =>
     obtain⟨s',Rq,n2,n3⟩:=RI;obtain⟨v,w',k1,k2,k3,k4⟩:=fin none s' W3 n2 n3;exact⟨v,w',k1,true,_,by rw[k2];rfl,.inl ⟨rfl,s',Rq,rfl⟩,k3,k4⟩
    | ret =>
     obtain⟨s',Rq,n2,n3⟩:=RI;obtain⟨v,w',k1,k2,k3,k4⟩:=fin (some .ret) s' W3 n2 n3;exact⟨v,w',k1,false,_,by rw[k2];rfl,.inr ⟨rfl,.ret,s',Rq,rfl⟩,k3,k4⟩
    | exit id =>
     obtain⟨s',Rq,n2,n3⟩:=RI;obtain⟨v,w',k1,k2,k3,k4⟩:=fin (some (.exit id)) s' W3 n2 n3;exact⟨v,w',k1,false,_,by rw[k2];rfl,.inr ⟨rfl,.exit id,s',Rq,rfl⟩,k3,k4⟩
    | goto t=>exact RI.elim
    | panic ch=>exact RI.elim
    | outgrown=>exact RI.elim
   | exit id=>exact hq.elim
   | goto t=>exact hq.elim
   | ret=>exact hq.elim
   | panic ch=>exact hq.elim
   | outgrown=>exact hq.elim
  refine key.mono ?_;rintro e W2 ⟨v,H',rfl,hor,SB,Uy⟩;have fin:∀ (st:LoopState) (pe:Option Code) (s:σ) (n_:st ≠ .busy),Rel (((l,Blk.obj (.loop (rec st pe)))::cF d::Hx s)++([]++(ap Hr Tr++F))) W2 ->
    ∃w4,(Instr.endLoop l).run P W2=.ok pe w4 /\ Rel ((cF d::(Hx s++ap Hr Tr))++F) w4 /\ Below 0 W1 w4:=by
   intro st pe s n_ h4;have h5:Rel ((l,Blk.obj (.loop (rec st pe)))::(cF d::(Hx s++(ap Hr Tr++F)))) W2:=h4;have RX:W2.heap[l]?=some (.loop (rec st pe)):=h5.holds _ aax;have iD:=run_endLoop (P:=P) RX (by rw[Rt];exact n_);refine⟨W2.putObj l (.loop { rec st pe with state:=.exhausted }),?_,?_,Uy.trans (dU _ _)⟩
   ·rw[iD,Rt]
   ·have h6:=h5.putObj (F:=[]) (.obj (.loop { rec st pe with state:=.exhausted }));have h7:=Rel.drop (X:=[(l,Blk.obj (.loop { rec st pe with state:=.exhausted }))]) (H:=cF d::(Hx s++(ap Hr Tr++F))) h6;rw[<- aaC] at h7;exact h7
  have hFd:Fm N (coll d::D) L { a with defers:=[coll d]++a.defers }:=⟨hF.size,by rw[hF.defs];rfl,hF.has⟩;rcases hor with ⟨s,hs,rfl⟩|⟨c,s,hs,rfl⟩
  ·obtain⟨w4,k1,k2,k3⟩:=fin .ready none s (by simp) SB;exact⟨none,w4,k1,Rx d s hs _ w4 hFd k2 (hB.trans (hB1.trans k3))⟩
  ·obtain⟨w4,k1,k2,k3⟩:=fin .done (some c) s (by simp) SB;exact⟨some c,w4,k1,Rp d c s hs _ w4 hFd k2 (hB.trans (hB1.trans k3))⟩
theorem CW{α σ τ:Type}{g:Operand}{ps:Array Tmp}{assign body:Code}{encs:α -> Array Value}{xs:List α}{gf:FuncId}{lb:Array Value}(hi:gB L g=true)(hg:fA L g=.func (.func gf) #[] lb)(eg:∀args w,(callFunc gf args).run P w=.ok (.enter gf args) w)
  (Ax:σ -> HL) (Tx:σ -> List HL) (I:Nat -> σ -> Prop) (Ix:Code -> σ -> Prop) (La:τ -> FL) (Ha:τ -> HL) (Ia:Nat -> α -> τ -> Prop) (YA:∀x,(encs x).size=ps.size) (TX:(ps.toList.all λ p=>decide (p<N))=true)
  (x0:σ) (h0:I 0 x0) {A:HL} {Ts:List HL} (ip ir jp jr:List Nat) (hp:(ip++ir).isPerm (List.range A.length)=true) (hj:(jp++jr).isPerm (List.range Ts.length)=true) (Hr:HL) (Tr:List HL) (Zr:ir.filterMap (A[·]?)=Hr) (Zf:jr.filterMap (Ts[·]?)=Tr) (hA:ip.filterMap (A[·]?)=Ax x0) (hT:jp.filterMap (Ts[·]?)=Tx x0)
  (hit:It P gf lb (ap Hr Tr++F) encs xs)
  (z_:∀ (l i:Nat) (x:α) (s:σ) (Y:HL) (w1:World),xs[i]?=some x -> I i s -> TR (some l) P N [] (Y++(ap Hr Tr++F)) w1 (pJ ps.toList (encs x).toList L) (ap (Ax s) (Tx s)) assign (Exit.then (My N [] (Y++(ap Hr Tr++F)) w1 La Ha (Ia i x)) (λ _ _ _=>False)))
  (Ry:∀ (l i:Nat) (x:α) (t:τ) (Y:HL) (w1:World),xs[i]?=some x -> Ia i x t -> TR (some l) P N [] (Y++(ap Hr Tr++F)) w1 (La t) (Ha t) body (RQ (Y++(ap Hr Tr++F)) w1 (λ s=>ap (Ax s) (Tx s)) (I (i+1)) Ix))
  (Rx:∀ (d:Nat) (s:σ),I xs.length s -> EX N (coll d::D) F w0 L (ap (cF d::(Ax s++Hr)) (Tx s++Tr)) Q .normal)
  (Rp:∀ (d:Nat) (c:Code) (s:σ),Ix c s -> TR none P N (coll d::D) F w0 L (ap (cF d::(Ax s++Hr)) (Tx s++Tr)) c Q) :
  TR none P N D F w0 L (ap A Ts) (.rangeFunc g ps assign body) Q:=by
 have hpm:∀ (d:Nat) (s:σ),(ap (cF d::(Ax s++Hr)) (Tx s++Tr)).Perm (cF d::(ap (Ax s) (Tx s)++ap Hr Tr)):=λ d s=>by
  show (cF d::((Ax s++Hr)++(Tx s++Tr).flatten)).Perm _;refine List.Perm.cons _ ?_;rw[List.flatten_append];show ((Ax s++Hr)++((Tx s).flatten++Tr.flatten)).Perm ((Ax s++(Tx s).flatten)++(Hr++Tr.flatten));rw[aaC,aaC];refine List.Perm.append_left _ ?_;rw[<- aaC,<- aaC];exact abO _ abL
 exact TR.range hi hg eg (λ s=>ap (Ax s) (Tx s)) I Ix La Ha Ia YA TX x0 h0 ip ir jp jr hp hj Hr Tr Zr Zf (by rw[hA,hT]) hit z_ Ry
  (λ d s hs a w h1 h2 h3=>Rx d s hs a w h1 (h2.perm ((hpm d s).append_right F)) h3) (λ d c s hs a w h1 h2 h3=>Rp d c s hs a w h1 (h2.perm ((hpm d s).append_right F)) h3)
theorem nC{fn:Func}{tmps:Array Value}{R:Ending -> World -> Prop}:∀ (ds:List Nat) (H:HL) (w:World),Rel (ds.map cF++H) w -> Below 0 w0 w -> (∀w',Rel H w' -> Below 0 w0 w' -> LeavesIn (Wr none) 0 P fn tmps R [] .returning w') ->
  LeavesInM (Wr none) 0 P fn tmps R (ds.map coll) .returning w
 | [],H,w,h,hB,hk=>hk w h hB
 | d::ds,H,w,h,hB,hk=>by
  have hd:w.heap[d]?=some (.deferred (some [])):=h.holds (cF d) (by simp);have h1:Rel ((d,Blk.obj (.deferred (some [])))::(ds.map cF++H)) w:=h;have h2:=(h1.putObj (F:=[]) (.obj (.deferred none)));exact⟨by simp,.inl ⟨d,_,rfl,run_takeDeferred hd,nC ds H _ (Rel.drop (X:=[(d,Blk.obj (.deferred none))]) h2) (hB.trans (dU _ _)) hk⟩⟩
theorem wj{f:FuncId}{fn:Func}{c:Code}{args:Array Value}{R:Value -> HL -> Prop}{H:HL}(hf:P.funcs[f]?=some fn)(hb:fn.body=some c)(hn:fn.ntmps=N)(ha:decide (args.size <= N)=true)
  (L:FL) (hL:qp 0 args.toList=L) (h:∀w0,TR none P N [] F w0 L H c (bodyPostM (Wr none) 0 P fn (Bp F w0 R))):Sp P f args H F R:=by
 intro w hR;refine(callsIn_wide (n:=0)).1 (callsIn_of_wp_marks (F:=Wr none) hf hb trivial ?_);have ha':args.size <= N:=aci ha;refine h w _ w ⟨?_,rfl,?_⟩ hR (Below.refl _ _)
 ·simp[hn];omega
 ·subst hL;intro t v ht;obtain⟨_,h2⟩:=kf 0 _ t v ht;have h3:args[t]?=some v:=by simpa using h2
  have iF:t<args.size:=(Array.getElem?_eq_some_iff.1 h3).1;simp only;rw[Array.getElem?_append_left iF];exact h3
theorem retM{fn:Func}{R:Value -> HL -> Prop}{rs:List ResultVar}(Vg:fn.results=⟨rs⟩)(ds:List Nat)(hD:D=ds.map coll)(dx ax:List Nat)(Ro:HL)(hints:List Hint)(v:Value)(E:List Nat)(Ob:List Prop)
  {A A1:HL} {Ts:List HL} (hdp:(dx++ax).isPerm (List.range A.length)=true) (hdx:dx.filterMap (A[·]?)=ds.map cF) (hax:ax.filterMap (A[·]?)=A1)
  (h:∀n0,zl P n0 L rs (ap A1 Ts) Ro hints=some (v,E,E,Ob)) (Xk:∀y∈Ro,y∈F) (iN:AllP Ob) (ip ir jp jr:List Nat) (H':HL) (hp:(ip++ir).isPerm (List.range A1.length)=true) (hj:(jp++jr).isPerm (List.range Ts.length)=true) (hH:ap (ip.filterMap (A1[·]?)) (jp.filterMap (Ts[·]?))=H') (hv:R v H')
  (a:Act) (w:World) (hF:Fm N D L a) (hR:Rel (ap A Ts++F) w) (hB:Below 0 w0 w):LeavesInM (Wr none) 0 P fn a.tmps (Bp F w0 R) a.defers .returning w:=by
 rw[hF.defs,hD];have h1:=fm A dx ax hdp;rw[hdx,hax] at h1;have Xl:Rel (ds.map cF++(ap A1 Ts++F)) w:=by
  refine hR.perm ?_;rw[<- aaC,<- aaC];exact abO F (abO _ h1)
 refine nC ds _ w Xl hB ?_;intro w' SB Uy;have h':=h w'.heap.size;unfold zl at h';split at h'
 case h_2=>cases h'
 rename_i vs s hs;split at h'
 case h_2=>cases h'
 simp only[Option.some.injEq,Prod.mk.injEq] at h';obtain⟨e1,e2,e3,e4⟩:=h';have iD:=jJ (P:=P) hF SB rs _ _ _ hs rfl rfl Xk (λ e=>by cases e) (fR e2 e3) (by rw[e4];exact AllP.mem iN);subst e1;exact⟨_,jl Vg iD,_,H',rfl,hv,SB.takeT ip ir jp jr hp hj hH,Uy⟩
end
def aas:=@SlIs.nil
end Go.Proofs.YtdppjkjbghbnjaaGreatDoor
