import Derived.Test.YthoijjeddhfcnaaGreatDoorZ01
import Derived.TacticsIn
import Derived.RangeFuncIn
import Derived.OrdersIn
set_option maxHeartbeats 4000000
set_option maxRecDepth 100000
set_option linter.unusedSimpArgs false
set_option linter.unusedVariables false
namespace Go.Proofs.YthoijjeddhfcnaaGreatDoor
open Go.RowKit
def iI(ops:List Oper)(o:Oper)(L:FL)(s:SS):Option (Bool × SS):=match o.guard with
 | none=>some (true,s)
 | some (j,want)=>match (ops[j]?).bind (·.dst) with
  | some d=>match L.lookup d with
   | some (.bool b)=>match s.hints with
    | .gd c::hs=>some (c == want,{ s with hints:=hs,ob:=(b=c)::s.ob })
    | .gen::hs=>some (b == want,{ s with hints:=hs })
    | _=>some (b == want,s)
   | some (.tuple _)=>some (false,s)
   | _=>none
  | none=>none
theorem cH{N:Nat}{D:List Deferred}{ops:Array Oper}{o:Oper}{L:FL}{s s':SS}{b:Bool}{a:Act}(h:iI ops.toList o L s=some (b,s'))(hF:Fm N D L a)(iD:∀p∈s'.ob,p) :
  Region.wanted o (yielded ops a.tmps)=b /\ s'.h=s.h /\ s'.cnt=s.cnt:=by
 unfold iI at h
 unfold Region.wanted
 split at h
 ·rename_i hg
  cases h
  rw[hg];exact⟨rfl,rfl,rfl⟩
 ·rename_i j want hg
  rw[hg]
  simp only
  split at h
  case h_2=>cases h
  rename_i d hd
  have QU:(ops[j]?).bind (·.dst)=some d:=by simpa using hd
  split at h
  ·rename_i x hx
   have hy:yielded ops a.tmps j=some x:=by unfold yielded;rw[QU];simp[hF.has _ _ hx]
   split at h
   ·cases h
    have:=iD _ (List.mem_cons_self)
    subst this
    rw[hy];exact⟨by simp,rfl,rfl⟩
   ·cases h
    rw[hy];exact⟨by simp,rfl,rfl⟩
   ·cases h
    rw[hy];exact⟨by simp,rfl,rfl⟩
  ·rename_i x hx
   cases h
   have hy:yielded ops a.tmps j=none:=by unfold yielded;rw[QU];simp[hF.has _ _ hx]
   rw[hy];exact⟨rfl,rfl,rfl⟩
  ·cases h
theorem bV{ops:List Oper}{o:Oper}{L:FL}{s s':SS}{b:Bool}(h:iI ops o L s=some (b,s')):(∀p∈s.eq,p∈s'.eq) /\ (∀p∈s.ob,p∈s'.ob) /\ s'.r=s.r /\ s'.wr=s.wr:=by
 unfold iI at h
 repeat' split at h
 all_goals first
  | (cases h;done)
  | (cases h;exact⟨λ _ h=>h,λ _ h=>h,rfl,rfl⟩)
  | (cases h;exact⟨λ _ h=>h,λ _ h=>List.mem_cons_of_mem _ h,rfl,rfl⟩)
def us(P:Program)(n0 N:Nat)(ops:List Oper):List Oper -> FL -> SS -> Option (FL × SS)
 | [],L,s=>some (L,s)
 | o::rest,L,s=>match iI ops o L s with
  | none=>none
  | some (false,s)=>match fG N o.dst undef L with
   | some L=>us P n0 N ops rest L s
   | none=>none
  | some (true,s)=>match gS o.op L with
   | false=>none
   | true=>match ev P n0 o (jJ L) s with
    | some (.value v,s)=>match fG N o.dst v L with
     | some L=>us P n0 N ops rest L s
     | none=>none
    | some (.skip,s)=>match fG N o.dst undef L with
     | some L=>us P n0 N ops rest L s
     | none=>none
    | _=>none
theorem kX{P:Program}{n0 N:Nat}{ops:List Oper}:∀ (l:List Oper) (L L':FL) (s s':SS),us P n0 N ops l L s=some (L',s') -> (∀p∈s.eq,p∈s'.eq) /\ (∀p∈s.ob,p∈s'.ob) /\ s'.r=s.r
 | [],L,L',s,s',h=>by rw[us] at h;cases h;exact⟨λ _ h=>h,λ _ h=>h,rfl⟩
 | o::rest,L,L',s,s',h=>by
  rw[us] at h
  split at h
  ·cases h
  ·rename_i s1 hw
   split at h
   case h_2=>cases h
   obtain⟨a1,a2,a3,a4⟩:=bV hw
   obtain⟨b1,b2,b3⟩:=kX rest _ _ _ _ h
   exact⟨λ p hp=>b1 p (a1 p hp),λ p hp=>b2 p (a2 p hp),b3.trans a3⟩
  ·rename_i s1 hw
   split at h
   ·cases h
   obtain⟨a1,a2,a3,a4⟩:=bV hw
   split at h
   ·rename_i v s2 he
    split at h
    case h_2=>cases h
    obtain⟨c1,c2,c3,c4⟩:=dK he
    obtain⟨b1,b2,b3⟩:=kX rest _ _ _ _ h
    exact⟨λ p hp=>b1 p (c1 p (a1 p hp)),λ p hp=>b2 p (c2 p (a2 p hp)),b3.trans (c3.trans a3)⟩
   ·rename_i s2 he
    split at h
    case h_2=>cases h
    obtain⟨c1,c2,c3,c4⟩:=dK he
    obtain⟨b1,b2,b3⟩:=kX rest _ _ _ _ h
    exact⟨λ p hp=>b1 p (c1 p (a1 p hp)),λ p hp=>b2 p (c2 p (a2 p hp)),b3.trans (c3.trans a3)⟩
   ·cases h
def Wr(r:Option Nat):Fence:={ fn:=λ _=>True,depth:=none,alive:=false,round:=r }
theorem jd{r:Option Nat}{n:Nat}{P:Program}{f:FuncId}{args:Array Value}{w:World}{R:Ending -> World -> Prop}(h:Calls P f args w R):CallsIn (Wr r) n P f args w R:=(callsIn_wide (n:=n)).2 h
theorem ut{o:Op}{L:FL}(h:gS o L=true):∀c,o ≠ .defer c:=by
 rintro c rfl
 simp[gS,cD] at h
theorem Fm.sem{r:Option Nat}{N:Nat}{D:List Deferred}{L:FL}{a:Act}(h:Fm N D L a){o:Oper}(ho:gS o.op L=true):o.semAt (Wr r).round a.eval=execOp (jJ L) o:=by
 rw[Oper.semAt_eq _ _ _ (ut ho),h.exec ho]
def AllP:List Prop -> Prop
 | []=>True
 | p::l=>p /\ AllP l
theorem AllP.mem:∀ {l:List Prop},AllP l -> ∀p∈l,p
 | _::_,h,p,hp=>by
  rcases List.mem_cons.1 hp with rfl|hp
  ·exact h.1
  ·exact AllP.mem h.2 p hp
def TR(r:Option Nat)(P:Program)(N:Nat)(D:List Deferred)(F:HL)(w0:World)(L:FL)(H:HL)(c:Code)(Q:Exit -> Act -> World -> Prop):Prop :=
 ∀a w,Fm N D L a -> Rel (H++F) w -> Below 0 w0 w -> c.wpIn (Wr r) 0 P Q a w
def EX(N:Nat)(D:List Deferred)(F:HL)(w0:World)(L:FL)(H:HL)(Q:Exit -> Act -> World -> Prop)(e:Exit):Prop :=
 ∀a w,Fm N D L a -> Rel (H++F) w -> Below 0 w0 w -> Q e a w
theorem fM:∀ {l:List (Nat × Nat)} {E:List Nat},l.map (·.1)=E -> l.map (·.2)=E -> ∀p∈l,p.1=p.2
 | [],_,_,_,p,hp=>by cases hp
 | q::l,E,h1,h2,p,hp=>by
  subst h1
  simp only[List.map_cons,List.cons.injEq] at h2
  rcases List.mem_cons.1 hp with rfl|hp
  ·exact h2.1.symm
  ·exact fM rfl h2.2 p hp
section
variable {r:Option Nat} {P:Program} {N:Nat} {D:List Deferred} {F:HL} {w0:World} {ops:Array Oper} {i:Nat} {L:FL} {H:HL} {Q:Exit -> Act -> World -> Prop}
def Sp(P:Program)(f:FuncId)(args:Array Value)(H F:HL)(R:Value -> HL -> Prop):Prop :=
 ∀w,Rel (H++F) w -> Calls P f args w λ e w'=>∃v H',e=.returned v /\ R v H' /\ Rel (H'++F) w' /\ Below 0 w w'
theorem Sp.mono{f:FuncId}{args:Array Value}{R R':Value -> HL -> Prop}(h:Sp P f args H F R)(hr:∀v H',R v H' -> R' v H'):Sp P f args H F R' :=
 λ w hR=>(h w hR).mono λ e w' ⟨v,H',h1,h2,h3,h4⟩=>⟨v,H',h1,hr _ _ h2,h3,h4⟩
end
def mF(P:Program)(n0 N:Nat)(ops:List Oper)(i:Nat)(L:FL)(H R:HL)(hints:List Hint):Option (Option Tmp × FuncId × Array Value × HL × List Nat × List Nat × List Prop) :=
 match ops[i]? with
 | none=>none
 | some o=>match iI ops o L ⟨H,R,hints,0,[],[],true⟩ with
  | some (true,s)=>match gS o.op L with
   | true=>match ev P n0 o (jJ L) s with
    | some (.enter f args,s')=>match s'.hints with
     | []=>some (o.dst,f,args,s'.h,s'.eq.map (·.1),s'.eq.map (·.2),s'.ob)
     | _=>none
    | _=>none
   | false=>none
  | _=>none
section
variable {r:Option Nat} {P:Program} {N:Nat} {D:List Deferred} {F:HL} {w0:World} {ops:Array Oper} {i:Nat} {L:FL} {H:HL} {Q:Exit -> Act -> World -> Prop}
theorem gT{n0:Nat}{R:HL}{hints:List Hint}{dst:Option Tmp}{f:FuncId}{args:Array Value}{H1:HL}{E E':List Nat}{Ob:List Prop}{l:List Oper}
  (h:mF P n0 N l i L H R hints=some (dst,f,args,H1,E,E',Ob)) :
  ∃o s s',l[i]?=some o /\ iI l o L ⟨H,R,hints,0,[],[],true⟩=some (true,s) /\ gS o.op L=true /\ ev P n0 o (jJ L) s=some (.enter f args,s') /\ o.dst=dst /\ s'.h=H1 /\ s'.eq.map (·.1)=E /\ s'.eq.map (·.2)=E' /\ s'.ob=Ob:=by
 unfold mF at h
 split at h
 ·cases h
 ·rename_i o ho
  split at h
  case h_2=>cases h
  rename_i s hs
  split at h
  case h_2=>cases h
  rename_i aT
  split at h
  case h_2=>cases h
  rename_i f' iS s' he
  split at h
  case h_2=>cases h
  simp only[Option.some.injEq,Prod.mk.injEq] at h
  obtain⟨e1,e2,e3,e4,e5,e6,e7⟩:=h
  subst e2;subst e3
  exact⟨o,s,s',ho,hs,aT,he,e1,e4,e5,e6,e7⟩
theorem TR.exit{id:Nat}(h:EX N D F w0 L H Q (.exit id)):TR r P N D F w0 L H (.exit id) Q:=λ a w h1 h2 h3=>wpIn_exit (h a w h1 h2 h3)
theorem Hz(h:EX N D F w0 L H Q .ret):TR r P N D F w0 L H .ret Q:=λ a w h1 h2 h3=>wpIn_ret (h a w h1 h2 h3)
abbrev ap(A:HL)(Ts:List HL):HL:=A++Ts.flatten
theorem fU{α:Type}(l:List α)(ip ir:List Nat)(hp:(ip++ir).isPerm (List.range l.length)=true):(ip.filterMap (l[·]?)++ir.filterMap (l[·]?)).Perm l:=by
 have h1:=(List.isPerm_iff.1 hp).filterMap (l[·]?)
 have h2:(List.range l.length).filterMap (l[·]?)=l:=by
  clear hp h1
  induction l with
  | nil=>rfl
  | cons x l ih =>
   rw[List.length_cons,List.range_succ_eq_map,List.filterMap_cons]
   simp only[List.getElem?_cons_zero,List.filterMap_map]
   congr 1
 rw[h2,List.filterMap_append] at h1
 exact h1
theorem kY(A:HL)(Ts:List HL)(ip ir jp jr:List Nat)(hp:(ip++ir).isPerm (List.range A.length)=true)(hj:(jp++jr).isPerm (List.range Ts.length)=true) :
  (ap (ip.filterMap (A[·]?)) (jp.filterMap (Ts[·]?))++ap (ir.filterMap (A[·]?)) (jr.filterMap (Ts[·]?))).Perm (ap A Ts):=by
 have h1:=fU A ip ir hp
 have h2:=(fU Ts jp jr hj).flatten
 rw[List.flatten_append] at h2
 refine List.Perm.trans ?_ (List.Perm.append h1 h2)
 rw[List.append_assoc,List.append_assoc]
 refine List.Perm.append_left _ ?_
 rw[<- List.append_assoc,<- List.append_assoc]
 exact List.Perm.append_right _ List.perm_append_comm
theorem sV(A B:HL)(As Bs:List HL)(C:HL):(ap A As++(ap B Bs++C)).Perm (ap (A++B) (As++Bs)++C):=by
 rw[<- List.append_assoc]
 refine List.Perm.append_right C ?_
 show (A++As.flatten++(B++Bs.flatten)).Perm (A++B++(As++Bs).flatten)
 rw[List.flatten_append,List.append_assoc,List.append_assoc]
 refine List.Perm.append_left _ ?_
 rw[<- List.append_assoc,<- List.append_assoc]
 exact List.Perm.append_right _ List.perm_append_comm
theorem Rel.takeT{A F H':HL}{Ts:List HL}{w:World}(ip ir jp jr:List Nat)(hp:(ip++ir).isPerm (List.range A.length)=true)(hj:(jp++jr).isPerm (List.range Ts.length)=true)(e:ap (ip.filterMap (A[·]?)) (jp.filterMap (Ts[·]?))=H')(h:Rel (ap A Ts++F) w):Rel (H'++F) w:=by
 have h1:=h.perm ((kY A Ts ip ir jp jr hp hj).append_right F)
 rw[List.append_assoc,e] at h1
 exact h1.sub ((List.Sublist.refl _).append (List.sublist_append_right _ _))
theorem fJ{P:Program}{b:Frame}{a:Act}{c:Code}{k:List Item}{cs:List Frame}{w:World} :
  step P (lone (b.atR a (.code (.scope c)::k)) cs w)=.next (lone (b.atR a (.code c :: .inScope c::k)) cs w) :=
 step_lone_go (by simp[stepG,stepG.exec,Frame.atR])
theorem qN{P:Program}{b:Frame}{a:Act}{c:Code}{k:List Item}{cs:List Frame}{w:World} :
  step P (lone (b.atR a (.inScope c::k)) cs w)=.next (lone (b.atR a k) cs w) :=
 step_lone_go (by simp[stepG,stepG.exec,Frame.atR])
theorem gF{Fe:Fence}{n:Nat}{P:Program}{c:Code}{Q:Exit -> Act -> World -> Prop}{a:Act}{w:World}(h:c.wpIn Fe n P (Exit.noGoto Q) a w):(Code.scope c).wpIn Fe n P Q a w:=by
 intro b k cs PO hb hr
 have h0:(lone (b.atR a (.code (.scope c)::k)) cs w).fenced P Fe:=fenced_calm hb hr rfl
 obtain⟨e,a₁,w₁,hq,oF⟩:=h b (.inScope c::k) cs PO hb hr
 cases e with
 | normal=>exact⟨.normal,a₁,w₁,hq,.head h0 fJ (StepsIn.trans oF (.one (fenced_calm hb hr rfl) qN))⟩
 | exit id=>exact⟨.exit id,a₁,w₁,hq,λ k' hk=>.head h0 fJ (oF.1 k' (by simp[exitTo,hk])),λ ZQ hk=>let ⟨k₁,h1,h2⟩:=oF.2 ZQ (by simpa [exitTo] using hk);⟨k₁,h1,.head h0 fJ h2⟩⟩
 | goto l=>exact hq.elim
 | ret=>exact⟨_,a₁,w₁,hq,.of_steps (.one h0 fJ) oF⟩
 | panic ch=>exact⟨_,a₁,w₁,hq,.of_steps (.one h0 fJ) oF⟩
 | outgrown=>exact⟨_,a₁,w₁,hq,.of_steps (.one h0 fJ) oF⟩
abbrev vI(n:Int):Value:=.int .i64 n
abbrev vP(b o:Nat):Value:=.pointer (some ⟨b,o,none⟩)
abbrev vS(b o n c:Nat):Value:=.slice (some ⟨b,o,none⟩) n c
def lX(l:List Value):Nat -> Nat -> Value:=λ _ k=>(⟨l⟩:Array Value).getD k default
theorem ac{p:Prop}{l:List Prop}(h:p)(k:AllP l):AllP (p::l):=⟨h,k⟩
theorem an:AllP []:=trivial
theorem mc{F R:HL}{x:Nat × Blk}(h:x∈F)(k:∀y∈R,y∈F):∀y∈x::R,y∈F:=λ y hy=>by
 rcases List.mem_cons.1 hy with rfl|hy
 ·exact h
 ·exact k y hy
theorem mn{F:HL}:∀y∈([]:HL),y∈F:=λ y hy=>by cases hy
def Kv{σ:Type}(N:Nat)(D:List Deferred)(F:HL)(w0:World)(Lx:σ -> FL)(Hx:σ -> HL)(I:σ -> Prop)(a:Act)(w:World):Prop :=
 ∃x,I x /\ Fm N D (Lx x) a /\ Rel (Hx x++F) w /\ Below 0 w0 w
theorem TR.loop{σ:Type}(Lx:σ -> FL)(Hx:σ -> HL)(I:σ -> Prop)(μ:σ -> Nat){c:Code}(x0:σ)(hi:I x0)(keys:List Nat)(hL:ru keys L=some (Lx x0)){A:HL}{Ts:List HL}(ip ir jp jr:List Nat)(hp:(ip++ir).isPerm (List.range A.length)=true)(hj:(jp++jr).isPerm (List.range Ts.length)=true)(hH:ap (ip.filterMap (A[·]?)) (jp.filterMap (Ts[·]?))=Hx x0)
  (round:∀x,I x -> TR r P N D F w0 (Lx x) (Hx x) c (Exit.then (Kv N D F w0 Lx Hx (λ x'=>I x' /\ μ x'<μ x)) Q)):TR r P N D F w0 L (ap A Ts) (.loop c) Q:=by
 intro a w h1 h2 h3
 replace h2:=h2.takeT ip ir jp jr hp hj hH
 have key:∀n x,μ x <= n -> I x -> ∀a w,Fm N D (Lx x) a -> Rel (Hx x++F) w -> Below 0 w0 w -> ∀ (b:Frame) (k:List Item) (cs:List Frame),b.roundOf=(Wr r).round -> (Wr r).fn b.fn -> (Wr r).room (cs.length+1+0) -> ∃e a' w',Q e a' w' /\ ArrivesIn (Machine.fenced P (Wr r)) P (lone (b.atR a (.code c :: .inLoop c::k)) cs w) b k cs e a' w':=by
  intro n
  induction n using Nat.strongRecOn with
  | _ n ih =>
   intro x hn hI a w k1 k2 k3 b k cs PO hb hr
   obtain⟨e,a₁,w₁,hq,oF⟩:=round x hI a w k1 k2 k3 b (.inLoop c::k) cs PO hb hr
   cases e with
   | normal =>
    obtain⟨x',⟨hI',iN⟩,m1,m2,m3⟩:=hq
    obtain⟨e₂,a₂,w₂,Q1,PI⟩:=ih (μ x') (by omega) x' (Nat.le_refl _) hI' a₁ w₁ m1 m2 m3 b k cs PO hb hr
    exact⟨e₂,a₂,w₂,Q1,.of_steps (StepsIn.trans oF (.one (fenced_calm hb hr rfl) stepR_inLoop)) PI⟩
   | exit id=>exact⟨_,a₁,w₁,hq,.pass (x:=.inLoop c) rfl (λ _ _=>.inl (by simp)) oF⟩
   | goto l=>exact⟨_,a₁,w₁,hq,.pass (x:=.inLoop c) rfl (λ _ _=>.inl (by simp)) oF⟩
   | ret=>exact⟨_,a₁,w₁,hq,.pass (x:=.inLoop c) rfl (λ _ _=>.inl (by simp)) oF⟩
   | panic ch=>exact⟨_,a₁,w₁,hq,.pass (x:=.inLoop c) rfl (λ _ _=>.inl (by simp)) oF⟩
   | outgrown=>exact⟨_,a₁,w₁,hq,.pass (x:=.inLoop c) rfl (λ _ _=>.inl (by simp)) oF⟩
 intro b k cs PO hb hr
 obtain⟨e,a',w',hq,oF⟩:=key _ x0 (Nat.le_refl _) hi a w (h1.pick hL) h2 h3 b k cs PO hb hr
 exact⟨e,a',w',hq,.of_steps (.one (fenced_calm hb hr rfl) stepR_loop) oF⟩
def zl(F:HL)(w0:World)(R:Value -> HL -> Prop)(e:Ending)(w':World):Prop:=∃v H',e=.returned v /\ R v H' /\ Rel (H'++F) w' /\ Below 0 w0 w'
def pf:Nat -> List Value -> FL
 | _,[]=>[]
 | n,v::l=>(n,v)::pf (n+1) l
theorem jK:∀ (n:Nat) (l:List Value) (t:Nat) (v:Value),(pf n l).lookup t=some v -> n <= t /\ l[t-n]?=some v
 | _,[],_,_,h=>by cases h
 | n,u::l,t,v,h=>by
  rw[pf,List.lookup_cons] at h
  by_cases e:t=n
  ·subst e;simp at h;subst h;simp
  ·have:(t == n)=false:=by simpa using e
   rw[this] at h
   obtain⟨h1,h2⟩:=jK (n+1) l t v h
   refine⟨by omega,?_⟩
   have:t-n=(t-(n+1))+1:=by omega
   rw[this];simpa using h2
theorem xp{f:FuncId}{fn:Func}{c:Code}{args:Array Value}{R:Value -> HL -> Prop}(hf:P.funcs[f]?=some fn)(hb:fn.body=some c)(hn:fn.ntmps=N)(ha:decide (args.size <= N)=true)
  (L:FL) (hL:pf 0 args.toList=L) (h:∀w0,TR none P N [] F w0 L H c (bodyPost P fn (zl F w0 R))):Sp P f args H F R:=by
 intro w hR
 refine calls_of_wp hf hb ((wpIn_wide (n:=0)).1 ?_)
 have ha':args.size <= N:=of_decide_eq_true ha
 refine h w _ w ⟨?_,rfl,?_⟩ hR (Below.refl _ _)
 ·simp[hn];omega
 ·subst hL
  intro t v ht
  obtain⟨_,h2⟩:=jK 0 _ t v ht
  have h3:args[t]?=some v:=by simpa using h2
  have iN:t<args.size:=(Array.getElem?_eq_some_iff.1 h3).1
  simp only
  rw[Array.getElem?_append_left iN]
  exact h3
def pg(P:Program)(n0:Nat)(L:FL):List ResultVar -> SS -> Option (List Value × SS)
 | [],s=>some ([],s)
 | .tmp t::l,s=>match L.lookup t with
  | some v=>match pg P n0 L l s with
   | some (vs,s)=>some (v::vs,s)
   | none=>none
  | none=>none
 | .cell t ty::l,s=>match L.lookup t with
  | some (.pointer (some a))=>match cG P n0 (loadVar ty a) s with
   | some (v,s)=>match pg P n0 L l s with
    | some (vs,s)=>some (v::vs,s)
    | none=>none
   | none=>none
  | _=>none
def Ox:List Value -> Value
 | [v]=>v
 | vs=>.tuple ⟨vs⟩
def xq(P:Program)(n0:Nat)(L:FL)(rs:List ResultVar)(H R:HL)(hints:List Hint):Option (Value × List Nat × List Nat × List Prop) :=
 match pg P n0 L rs ⟨H,R,hints,0,[],[],false⟩ with
 | some (vs,s)=>match s.hints with
  | []=>some (Ox vs,s.eq.map (·.1),s.eq.map (·.2),s.ob)
  | _=>none
 | none=>none
theorem lY{n0:Nat}:∀ (rs:List ResultVar) (s s':SS) (vs:List Value),pg P n0 L rs s=some (vs,s') -> (∀p∈s.eq,p∈s'.eq) /\ (∀p∈s.ob,p∈s'.ob)
 | [],s,s',vs,h=>by rw[pg] at h;cases h;exact⟨λ _ h=>h,λ _ h=>h⟩
 | .tmp t::l,s,s',vs,h=>by
  rw[pg] at h
  split at h
  ·split at h
   ·rename_i hr
    cases h
    exact lY l _ _ _ hr
   ·cases h
  ·cases h
 | .cell t ty::l,s,s',vs,h=>by
  rw[pg] at h
  split at h
  ·split at h
   ·rename_i ha
    split at h
    ·rename_i hr
     cases h
     obtain⟨a1,a2,_⟩:=dJ _ _ _ _ ha
     obtain⟨b1,b2⟩:=lY l _ _ _ hr
     exact⟨λ p hp=>b1 p (a1 p hp),λ p hp=>b2 p (a2 p hp)⟩
    ·cases h
   ·cases h
  ·cases h
def uu(tmps:Array Value):ResultVar -> Sem Value
 | .tmp t=>pure (tmps.getD t undef)
 | .cell a t=>do loadVar t (<- asAddr (tmps.getD a undef))
theorem je{n0:Nat}{a:Act}{w:World}(hF:Fm N D L a)(hR:Rel (H++F) w):∀ (rs:List ResultVar) (s s':SS) (vs:List Value),pg P n0 L rs s=some (vs,s') -> s.wr=false -> s.h=H -> (∀y∈s.r,y∈F) -> (s.wr=true -> n0+s.cnt=w.heap.size) ->
  (∀p∈s'.eq,p.1=p.2) -> (∀p∈s'.ob,p) -> (rs.mapM (uu a.tmps)).run P w=.ok vs w
 | [],s,s',vs,h,_,_,_,_,_,_=>by rw[pg] at h;cases h;rfl
 | .tmp t::l,s,s',vs,h,hw,hh,hr,hn,heq,iD=>by
  rw[pg] at h
  split at h
  ·rename_i v hv
   split at h
   ·rename_i D_ s1 Vy
    cases h
    have ih:=je hF hR l _ _ _ Vy hw hh hr hn heq iD
    rw[List.mapM_cons,Sem.run_bind]
    simp[uu,hF.has _ _ hv,Sem.run_bind,ih]
   ·cases h
  ·cases h
 | .cell t ty::l,s,s',vs,h,hw,hh,hr,hn,heq,iD=>by
  rw[pg] at h
  split at h
  ·rename_i ad hv
   split at h
   ·rename_i v s1 ha
    split at h
    ·rename_i D_ s2 Vy
     cases h
     obtain⟨a1,a2,a3,a4⟩:=dJ _ _ _ _ ha
     obtain⟨b1,b2⟩:=lY l _ _ _ Vy
     obtain⟨w1,e1,e2,e3,e4,e5⟩:=lU (F:=F) _ _ _ _ w ha (λ p hp=>heq p (b1 p hp)) (λ p hp=>iD p (b2 p hp)) (by rw[hh];exact hR) hr hn
     obtain rfl:=e5 hw
     have hh1:s1.h=H:=by rw[zi _ _ _ _ ha hw];exact hh
     have ih:=je hF hR l _ _ _ Vy (a4.trans hw) hh1 (by rw[a3];exact hr) (λ e=>e4 (a4.symm.trans e)) heq iD
     rw[List.mapM_cons,Sem.run_bind]
     simp[uu,hF.has _ _ hv,Sem.run_bind,asAddr,e1,ih]
    ·cases h
   ·cases h
  ·cases h
theorem iJ{fn:Func}{rs:List ResultVar}(Se:fn.results=⟨rs⟩){tmps:Array Value}{w:World}{vs:List Value}(h:(rs.mapM (uu tmps)).run P w=.ok vs w):(results fn tmps).run P w=.ok (Ox vs) w:=by
 have h1:(results fn tmps)=(do let vs <- (⟨rs⟩:Array ResultVar).mapM (uu tmps);pure (if h:vs.size=1 then vs[0] else .tuple vs)):=by
  unfold results
  rw[Se]
  congr 1
 rw[h1]
 have h2:(⟨rs⟩:Array ResultVar).mapM (uu tmps)=List.toArray <$> rs.mapM (uu tmps):=by simp
 rw[h2]
 have h3:((List.toArray <$> rs.mapM (uu tmps)):Sem (Array Value)).run P w=.ok ⟨vs⟩ w:=by
  rw[map_eq_pure_bind,Sem.run_bind,h];rfl
 rw[Sem.run_bind,h3]
 match vs with
 | []=>rfl
 | [v]=>rfl
 | v::u::l=>simp[Ox]
theorem TR.ret{fn:Func}{R:Value -> HL -> Prop}(hQ:∀a w,bodyPost P fn (zl F w0 R) .ret a w -> Q .ret a w){rs:List ResultVar}(Se:fn.results=⟨rs⟩)(hD:D=[])(Ro:HL)(hints:List Hint)(v:Value)(E:List Nat)(Ob:List Prop)
  {A:HL} {Ts:List HL} (h:∀n0,xq P n0 L rs (ap A Ts) Ro hints=some (v,E,E,Ob)) (Uh:∀y∈Ro,y∈F) (iD:AllP Ob) (ip ir jp jr:List Nat) (H':HL) (hp:(ip++ir).isPerm (List.range A.length)=true) (hj:(jp++jr).isPerm (List.range Ts.length)=true) (hH:ap (ip.filterMap (A[·]?)) (jp.filterMap (Ts[·]?))=H') (hv:R v H'):TR r P N D F w0 L (ap A Ts) .ret Q:=by
 refine Hz ?_
 intro a w hF hR hB
 refine hQ a w ?_
 have h':=h w.heap.size
 unfold xq at h'
 split at h'
 case h_2=>cases h'
 rename_i vs s hs
 split at h'
 case h_2=>cases h'
 simp only[Option.some.injEq,Prod.mk.injEq] at h'
 obtain⟨e1,e2,e3,e4⟩:=h'
 have dO:=je (P:=P) hF hR rs _ _ _ hs rfl rfl Uh (λ e=>by cases e) (fM e2 e3) (by rw[e4];exact AllP.mem iD)
 subst e1
 exact⟨hF.defs.trans hD,_,iJ Se dO,_,H',rfl,hv,hR.takeT ip ir jp jr hp hj hH,hB⟩
theorem uv{f:FuncId}{args:Array Value}{v:Value}(h:∀w,Calls P f args w λ e w'=>e=.returned v /\ w'=w)(F:HL):Sp P f args [] F (λ u H'=>u=v /\ H'=[]):=λ w hR =>
 (h w).mono λ e w' ⟨h1,h2⟩=>⟨v,[],h1,⟨rfl,rfl⟩,by rw[h2];exact hR,by rw[h2];exact Below.refl _ _⟩
end
def fq(P:Program)(o:Oper)(a:Act)(w:World)(R:Value -> World -> Prop):Prop:=match (execOp a.eval o).run P w with
 | .ok (.value u) w'=>R u w'
 | .ok .skip w'=>R undef w'
 | .ok (.enter f args) w'=>Calls P f args w' fun
  | .returned u,w''=>R u w''
  | _,_=>False
 | _=>False
theorem fV{P:Program}{o:Oper}{a:Act}{w:World}{R R':Value -> World -> Prop}(h:fq P o a w R)(hr:∀u w,R u w -> R' u w):fq P o a w R':=by
 unfold fq at *
 split at h
 ·exact hr _ _ h
 ·exact hr _ _ h
 ·exact h.mono λ e w he=>by cases e <;> first|exact hr _ _ he|exact he
 ·exact h
theorem lZ{r:Option Nat}{P:Program}{o:Oper}{a:Act}{w:World}{R:Value -> World -> Prop}{K:Act -> World -> Prop}{Q:Exit -> Act -> World -> Prop}(hd:∀c,o.op ≠ .defer c)(h:fq P o a w R)(hk:∀u w',R u w' -> K (a.put o.dst u) w') :
  o.uponIn (Wr r) 0 P a K Q ((o.semAt (Wr r).round a.eval).run P w):=by
 rw[Oper.semAt_eq _ _ _ hd]
 unfold fq at h
 split at h
 ·rename_i u w' he;rw[he];exact hk _ _ h
 ·rename_i w' he;rw[he];exact hk _ _ h
 ·rename_i f args w' he;rw[he,Oper.uponIn_enter]
  exact⟨λ h=>(by cases h),jd (h.mono λ e w he=>by
   cases e with
   | returned u=>exact hk _ _ he
   | panicked _=>exact he.elim
   | outgrown=>exact he.elim)⟩
 ·exact h.elim
theorem pi{P:Program}{o:Oper}{a a':Act}{w:World}{R:Value -> World -> Prop}(he:execOp a'.eval o=execOp a.eval o)(h:fq P o a w R):fq P o a' w R:=by
 unfold fq at *;rw[he];exact h
section
variable {P:Program} {ops:Array Oper} {Q:Exit -> Act -> World -> Prop} {F:HL} {w0:World} {hards:List Nat} {Rd:HL}
def OPJ(P:Program)(ops:Array Oper)(F:HL)(w0:World)(hards:List Nat)(Rd:HL)(i:Nat)(a:Act)(H:HL)(K:Act -> HL -> Prop):Prop:=match ops[i]? with
 | none=>False
 | some o=>if Region.wanted o (yielded ops a.tmps)=true then
   ∀w,Rel (H++F) w -> Below 0 w0 w -> fq P o a w λ u w'=>∃H',((i ∉ hards -> ∃X,H'=X++H) /\ (i∈hards -> ∀x∈Rd,x∈H')) /\ K (a.put o.dst u) H' /\ Rel (H'++F) w' /\ Below 0 w0 w'
  else K (a.put o.dst undef) H
def Oy(Q:Exit -> Act -> World -> Prop)(F:HL)(w0:World)(a:Act)(H:HL):Prop:=∀w,Rel (H++F) w -> Below 0 w0 w -> Q .normal a w
def JJ(P:Program)(ops:Array Oper)(Q:Exit -> Act -> World -> Prop)(F:HL)(w0:World)(hards:List Nat)(Rd:HL):Nat -> Array Bool -> Act -> HL -> Prop
 | 0,listed,a,H=>Region.ready .any ops listed=[] /\ Oy Q F w0 a H
 | fuel+1,listed,a,H=>(Region.ready .any ops listed=[] -> Oy Q F w0 a H) /\
  ∀i∈Region.ready .any ops listed,OPJ P ops F w0 hards Rd i a H (JJ P ops Q F w0 hards Rd fuel (listed.setIfInBounds i true))
def VO(P:Program)(ops:Array Oper)(F:HL)(w0:World)(o:Oper)(v:Value)(a:Act)(H:HL):Prop :=
 (Region.wanted o (yielded ops a.tmps)=true /\ ∀X w,Rel (X++(H++F)) w -> Below 0 w0 w -> fq P o a w λ u w'=>u=v /\ Rel (X++(H++F)) w' /\ Below 0 w0 w') \/
 (Region.wanted o (yielded ops a.tmps)=false /\ v=undef)
theorem VO.same{o:Oper}{v:Value}{a a':Act}{H:HL}(h:VO P ops F w0 o v a H)(he:execOp a'.eval o=execOp a.eval o)(hw:Region.wanted o (yielded ops a'.tmps)=Region.wanted o (yielded ops a.tmps)):VO P ops F w0 o v a' H:=by
 rcases h with ⟨h1,h2⟩|⟨h1,h2⟩
 ·exact .inl ⟨hw.trans h1,λ X w hR hB=>pi he (h2 X w hR hB)⟩
 ·exact .inr ⟨hw.trans h1,h2⟩
theorem VO.more{o:Oper}{v:Value}{a:Act}{H:HL}(h:VO P ops F w0 o v a H)(X:HL):VO P ops F w0 o v a (X++H):=by
 rcases h with ⟨h1,h2⟩|⟨h1,h2⟩
 ·refine .inl ⟨h1,λ Y w hR hB=>?_⟩
  have e:Y++(X++H++F)=(Y++X)++(H++F):=by simp
  rw[e] at hR ⊢
  exact h2 (Y++X) w hR hB
 ·exact .inr ⟨h1,h2⟩
theorem VO.opj{i:Nat}{o:Oper}{v:Value}{a:Act}{H:HL}(Qs:∀x∈Rd,x∈H)(hi:ops[i]?=some o)(h:VO P ops F w0 o v a H){K:Act -> HL -> Prop}(hk:K (a.put o.dst v) H):OPJ P ops F w0 hards Rd i a H K:=by
 unfold OPJ
 rw[hi]
 simp only
 rcases h with ⟨h1,h2⟩|⟨h1,rfl⟩
 ·rw[if_pos h1]
  intro w hR hB
  refine fV (h2 [] w hR hB) ?_
  rintro u w' ⟨rfl,h3,h4⟩
  exact⟨H,⟨λ _=>⟨[],rfl⟩,λ _=>Qs⟩,hk,h3,h4⟩
 ·rw[if_neg (by rw[h1];simp)]
  exact hk
def comes(ops:Array Oper)(i:Nat):Nat -> Nat -> Bool
 | 0,_=>false
 | f+1,m=>match ops[m]? with
  | some o=>o.after.toList.any λ e=>Region.binds .any e && (e.on == i || comes ops i f e.on)
  | none=>false
def Closed(ops:Array Oper)(listed:Array Bool):Prop :=
 ∀j oj,ops[j]?=some oj -> listed.getD j false=true -> ∀e∈oj.after,Region.binds .any e=true -> listed.getD e.on false=true
theorem Closed.set{listed:Array Bool}{j:Nat}(h:Closed ops listed)(hj:j∈Region.ready .any ops listed):Closed ops (listed.setIfInBounds j true):=by
 obtain⟨_,oj,VB,ID⟩:=mem_ready.1 hj
 intro k ok hk hl e he hb
 by_cases Xz:j=k
 ·subst Xz
  obtain rfl:ok=oj:=Option.some.inj (hk.symm.trans VB)
  exact getD_set_true (ID e he hb)
 ·rw[getD_set_ne false Xz] at hl
  exact getD_set_true (h k ok hk hl e he hb)
theorem Closed.comes{listed:Array Bool}(h:Closed ops listed){i:Nat}(hi:listed.getD i false=false):∀ (f m:Nat),comes ops i f m=true -> listed.getD m false=false
 | 0,m,ha=>by simp[YthoijjeddhfcnaaGreatDoor.comes] at ha
 | f+1,m,ha=>by
  rw[YthoijjeddhfcnaaGreatDoor.comes] at ha
  cases hm:ops[m]? with
  | none=>rw[hm] at ha;cases ha
  | some o =>
   rw[hm] at ha
   obtain⟨e,he,hb⟩:=List.any_eq_true.1 ha
   simp only[Bool.and_eq_true,Bool.or_eq_true,beq_iff_eq] at hb
   cases hl:listed.getD m false with
   | false=>rfl
   | true =>
    have h1:=h m o hm hl e (by simpa using he) hb.1
    rcases hb.2 with h2|h2
    ·rw[h2,hi] at h1;cases h1
    ·rw[h.comes hi f e.on h2] at h1;cases h1
theorem pj{listed:Array Bool}{i:Nat}(h:listed.getD i true=false):listed.getD i false=false:=by
 rcases Nat.lt_or_ge i listed.size with h'|h'
 ·simp[h'] at h ⊢;exact h
 ·simp[Array.getElem?_eq_none h'] at h
theorem Df{i:Nat}{oi:Oper}{v:Value}(hi:ops[i]?=some oi)(Vr:∀ (j:Nat) (o:Oper) cs b,ops[j]?=some o -> o.op ≠ .select cs b) :
  ∀ (fuel:Nat) (listed:Array Bool) (a:Act) (H:HL),((∀m∈hards,comes ops i ops.size m=true) \/ ∀H',(∀x∈Rd,x∈H') -> VO P ops F w0 oi v a H') -> (∀x∈Rd,x∈H) -> Closed ops listed ->
   (∀j oj,ops[j]?=some oj -> j≠i -> listed.getD j true=false -> (∀e∈oj.after,Region.binds .any e=true -> e.on≠i) -> oi.apart ops oj=true) ->
   i∈Region.ready .any ops listed -> VO P ops F w0 oi v a H ->
   JJ P ops Q F w0 hards Rd fuel (listed.setIfInBounds i true) (a.put oi.dst v) H -> JJ P ops Q F w0 hards Rd (fuel+1) listed a H:=by
 intro fuel
 induction fuel with
 | zero =>
  intro listed a H _ Qs _ _ hr hy PC
  refine⟨λ h=>(by rw[h] at hr;cases hr),λ j hj=>?_⟩
  by_cases Tv:j=i
  ·subst Tv;exact hy.opj Qs hi PC
  ·have:=ready_mono hj Tv
   rw[PC.1] at this
   cases this
 | succ fuel ih =>
  intro listed a H hh Qs By UT hr hy hJ
  refine⟨λ h=>(by rw[h] at hr;cases hr),λ j hj=>?_⟩
  by_cases Tv:j=i
  ·subst Tv;exact hy.opj Qs hi hJ
  ·have h1:=hJ.2 j (ready_mono hj Tv)
   obtain⟨VJ,oj,VB,ID⟩:=mem_ready.1 hj
   have XB:=(mem_ready.1 hr).1
   have Z6:∀e∈oj.after,Region.binds .any e=true -> e.on≠i:=λ e he hb heq=>by
    have h1:=ID e he hb
    rw[heq,pj XB] at h1
    cases h1
   obtain⟨p1,p2,p3⟩:=Oper.apart_spec (UT j oj VB Tv VJ Z6)
   have VZ:=By.set hj
   have XA:(listed.setIfInBounds j true).getD i false=false:=by rw[getD_set_ne false Tv];exact pj XB
   have hjlt:j<listed.size:=by
    rcases Nat.lt_or_ge j listed.size with h|h
    ·exact h
    ·simp[Array.getElem?_eq_none h] at VJ
   have hjn:(∀m∈hards,comes ops i ops.size m=true) -> j ∉ hards:=λ hh hm=>by
    have h2:=VZ.comes XA _ j (hh j hm)
    simp[hjlt] at h2
   have SP:∀k ok,ops[k]?=some ok -> k≠i -> (listed.setIfInBounds j true).getD k true=false ->
     (∀e∈ok.after,Region.binds .any e=true -> e.on≠i) -> oi.apart ops ok=true:=λ k ok hk hki hun Qp=>by
    refine UT k ok hk hki ?_ Qp
    by_cases Xz:j=k
    ·subst Xz;exact VJ
    ·rw[getD_set_ne true Xz] at hun;exact hun
   have RV:=ready_mono hr (Ne.symm Tv)
   unfold OPJ at h1 ⊢
   rw[VB] at h1 ⊢
   simp only at h1 ⊢
   rw[wanted_put oj a oi.dst v p1] at h1
   have keep:∀u,VO P ops F w0 oi v (a.put oj.dst u) H:=λ u=>hy.same (execOp_put oi (λ cs b=>Vr i oi cs b hi) a oj.dst u p3) (wanted_put oi a oj.dst u p3)
   have Sv:(∀H',(∀x∈Rd,x∈H') -> VO P ops F w0 oi v a H') -> ∀u H',(∀x∈Rd,x∈H') -> VO P ops F w0 oi v (a.put oj.dst u) H':=λ hh u H' hr=>(hh H' hr).same (execOp_put oi (λ cs b=>Vr i oi cs b hi) a oj.dst u p3) (wanted_put oi a oj.dst u p3)
   by_cases hw:Region.wanted oj (yielded ops a.tmps)=true
   ·rw[if_pos hw] at h1 ⊢
    intro w hR hB
    refine fV (pi (execOp_put oj (λ cs b=>Vr j oj cs b VB) a oi.dst v p1).symm (h1 w hR hB)) ?_
    rintro u w' ⟨H',hx,h2,h3,h4⟩
    refine⟨H',hx,?_,h3,h4⟩
    have X1:∀x∈Rd,x∈H':=by
     by_cases hjh:j∈hards
     ·exact hx.2 hjh
     ·obtain⟨X,rfl⟩:=hx.1 hjh
      exact λ x hx=>List.mem_append_right _ (Qs x hx)
    have hy':VO P ops F w0 oi v (a.put oj.dst u) H':=by
     rcases hh with hh|hh
     ·obtain⟨X,rfl⟩:=hx.1 (hjn hh)
      exact(keep u).more X
     ·exact Sv hh u H' X1
    refine ih _ _ _ (hh.imp id λ hh=>Sv hh u) X1 VZ SP RV hy' ?_
    rw[Array.setIfInBounds_comm _ _ Tv,<- Act.put_comm a v u p2]
    exact h2
   ·rw[if_neg hw] at h1 ⊢
    refine ih _ _ _ (hh.imp id λ hh=>Sv hh undef) Qs VZ SP RV (keep undef) ?_
    rw[Array.setIfInBounds_comm _ _ Tv,<- Act.put_comm a v undef p2]
    exact h1
end
def gU(ops:List Oper)(listed:List Bool):List Nat :=
 (List.range ops.length).filter λ i=>!(listed.getD i true) && ((ops[i]?).map (·.after.toList.all λ e=>!Region.binds .any e || listed.getD e.on false)).getD false
theorem kZ(ops:Array Oper)(listed:List Bool):Region.ready .any ops ⟨listed⟩=gU ops.toList listed:=by
 unfold Region.ready gU
 rw[Array.length_toList]
 apply List.filter_congr
 intro i _
 simp only[Array.getD_eq_getD_getElem?,List.getElem?_toArray,List.getD_eq_getElem?_getD,Array.getElem?_toList]
 congr 1
 cases ops[i]? with
 | none=>rfl
 | some o=>simp
def Mv(ops:List Oper)(hards:List Nat)(listed:List Bool)(i:Nat):Bool :=
 (gU ops listed).contains i && Region.free .any ⟨ops⟩ ⟨listed⟩ i && hards.all (λ m=>comes ⟨ops⟩ i ops.length m)
def MD(ops:List Oper)(listed:List Bool)(i:Nat):Bool :=
 (gU ops listed).contains i && Region.free .any ⟨ops⟩ ⟨listed⟩ i
def TD(P:Program)(N:Nat)(D:List Deferred)(F:HL)(w0:World)(ops:Array Oper)(hards:List Nat)(Rd:HL)(fuel:Nat)(listed:List Bool)(L:FL)(H:HL)(Q:Exit -> Act -> World -> Prop):Prop :=
 Closed ops ⟨listed⟩ -> ∀a,Fm N D L a -> JJ P ops Q F w0 hards Rd fuel ⟨listed⟩ a H
section
variable {r:Option Nat} {P:Program} {N:Nat} {D:List Deferred} {F:HL} {w0:World} {ops:Array Oper} {hards:List Nat} {Rd:HL} {fuel:Nat} {listed:List Bool} {L:FL} {H:HL} {Q:Exit -> Act -> World -> Prop}
theorem uw(n:Nat):Closed ops ⟨List.replicate n false⟩:=by
 intro j oj _ hl
 exfalso
 rcases Nat.lt_or_ge j n with h|h
 ·simp[h] at hl
 ·simp[h] at hl
def oL(ops:Array Oper):Bool:=ops.all λ o=>match o.op with | .defer _=>false|_=>true
theorem sW(h:oL ops=true)(j:Nat)(o:Oper)(c:Call)(ho:ops[j]?=some o):o.op ≠ .defer c:=by
 intro heq
 have:=Array.all_eq_true_iff_forall_mem.1 h o (Array.mem_of_getElem? ho)
 simp[heq] at this
theorem iY(hd:oL ops=true):∀ (fuel:Nat) (listed:Array Bool) (a:Act) (H:HL) (w:World),JJ P ops (NoPanic Q) F w0 hards Rd fuel listed a H -> Rel (H++F) w -> Below 0 w0 w -> wpAnyIn (Wr r) 0 P .any ops Q fuel listed a w
 | 0,_,a,H,w,h,hR,hB=>⟨h.1,h.2 w hR hB⟩
 | fuel+1,listed,a,H,w,h,hR,hB=>by
  refine⟨λ hr=>h.1 hr w hR hB,λ i hi=>?_⟩
  have h1:=h.2 i hi
  unfold OPJ at h1
  unfold wpOpIn
  cases ho:ops[i]? with
  | none=>rw[ho] at h1;exact h1.elim
  | some o =>
   rw[ho] at h1
   simp only at h1 ⊢
   by_cases hw:Region.wanted o (yielded ops a.tmps)=true
   ·rw[if_pos hw] at h1 ⊢
    refine⟨λ _ _=>trivial,lZ (λ c=>sW hd i o c ho) (h1 w hR hB) ?_⟩
    rintro u w' ⟨H',_,h2,h3,h4⟩
    exact iY hd fuel _ _ H' w' h2 h3 h4
   ·rw[if_neg hw] at h1 ⊢
    exact⟨λ _ _=>trivial,iY hd fuel _ _ H w h1 hR hB⟩
theorem TR.draw{id:Nat}(hards:List Nat)(Rd:HL)(hm:P.follows .mixedOrders=true)(hs:Region.noSelect ops=true)(hd:oL ops=true)(h:TD P N D F w0 ops hards Rd ops.size (List.replicate ops.toList.length false) L H (NoPanic Q)):TR r P N D F w0 L H (.region id ops true) Q:=by
 intro a w h1 h2 h3
 refine wpIn_region_any hm ?_
 have h4:=h (uw _) a h1
 have e:Array.replicate ops.size false=⟨List.replicate ops.toList.length false⟩:=by simp
 rw[e]
 refine iY hd (hards:=hards) (Rd:=Rd) _ _ _ H _ h4 (h2.world rfl) ⟨h3.os,h3.tape,h3.output,h3.size,λ k hk=>by omega⟩
theorem TD.fin(hr:gU ops.toList listed=[])(h:EX N D F w0 L H Q .normal):TD P N D F w0 ops hards Rd fuel listed L H Q:=by
 intro _ a hF
 have RV:=(kZ ops listed).trans hr
 have hx:Oy Q F w0 a H:=λ w hR hB=>h a w hF hR hB
 cases fuel with
 | zero=>exact⟨RV,hx⟩
 | succ n=>exact⟨λ _=>hx,λ i hi=>by rw[RV] at hi;cases hi⟩
theorem ME(h:EX N D F w0 L H Q .normal):EX N D F w0 L H (NoPanic Q) .normal:=h
def qO(P:Program)(n0 N:Nat)(ops:List Oper)(hards:List Nat)(Rd:HL):List Nat -> List Bool -> FL -> SS -> Option (List Bool × FL × SS)
 | [],listed,L,s=>some (listed,L,s)
 | i::is,listed,L,s=>match MD ops listed i,ops[i]? with
  | true,some o=>match iI ops o L s with
   | none=>none
   | some (false,s)=>match fG N o.dst undef L with
    | some L=>qO P n0 N ops hards Rd is (bD listed i true) L s
    | none=>none
   | some (true,s)=>match gS o.op L with
    | false=>none
    | true=>match Mv ops hards listed i with
     | true=>match ev P n0 o (jJ L) s with
      | some (.value v,s)=>match fG N o.dst v L with
       | some L=>qO P n0 N ops hards Rd is (bD listed i true) L s
       | none=>none
      | _=>none
     | false=>match ev P n0 o (jJ L) { s with h:=[],r:=Rd++s.r } with
      | some (.value v,s')=>match fG N o.dst v L with
       | some L=>qO P n0 N ops hards Rd is (bD listed i true) L { s' with h:=s.h,r:=s.r }
       | none=>none
      | _=>none
  | _,_=>none
theorem Dg{i:Nat}(h:MD ops.toList listed i=true):i∈Region.ready .any ops ⟨listed⟩ /\ Region.free .any ops ⟨listed⟩ i=true:=by
 unfold MD at h
 simp only[Bool.and_eq_true,List.contains_iff_mem] at h
 exact⟨by rw[kZ];exact h.1,h.2⟩
theorem Dh{i:Nat}(h:Mv ops.toList hards listed i=true):i∈Region.ready .any ops ⟨listed⟩ /\ Region.free .any ops ⟨listed⟩ i=true /\ ∀m∈hards,comes ops i ops.size m=true:=by
 unfold Mv at h
 simp only[Bool.and_eq_true,List.contains_iff_mem,List.all_eq_true] at h
 obtain⟨⟨h1,h2⟩,h3⟩:=h
 exact⟨by rw[kZ];exact h1,h2,λ m hm=>by simpa using h3 m hm⟩
theorem gV{n0:Nat}{l:List Oper}:∀ (is:List Nat) (b b':List Bool) (L L':FL) (s s':SS),qO P n0 N l hards Rd is b L s=some (b',L',s') -> (∀p∈s.eq,p∈s'.eq) /\ (∀p∈s.ob,p∈s'.ob)
 | [],b,b',L,L',s,s',h=>by rw[qO] at h;cases h;exact⟨λ _ h=>h,λ _ h=>h⟩
 | i::is,b,b',L,L',s,s',h=>by
  rw[qO] at h
  split at h
  case h_2=>cases h
  split at h
  ·cases h
  ·rename_i hw
   split at h
   case h_2=>cases h
   obtain⟨a1,a2,_⟩:=bV hw
   obtain⟨b1,b2⟩:=gV is _ _ _ _ _ _ h
   exact⟨λ p hp=>b1 p (a1 p hp),λ p hp=>b2 p (a2 p hp)⟩
  ·rename_i hw
   split at h
   ·cases h
   split at h
   all_goals
    split at h
    case h_2=>cases h
    rename_i he
    split at h
    case h_2=>cases h
    obtain⟨a1,a2,_⟩:=bV hw
    obtain⟨c1,c2,_⟩:=dK he
    obtain⟨b1,b2⟩:=gV is _ _ _ _ _ _ h
    exact⟨λ p hp=>b1 p (c1 p (a1 p hp)),λ p hp=>b2 p (c2 p (a2 p hp))⟩
theorem MF{n0:Nat}{o:Oper}{ρ:Operand -> Value}{s s':SS}{x:Next}(h:ev P n0 o ρ s=some (x,s'))(hw:s.wr=false):s'.h=s.h:=by
 unfold ev at h
 repeat' split at h
 all_goals first
  | exact(zi _ _ _ _ h hw :)
  | (cases h;done)
  | (cases h;rfl)
  | (rename_i e;rw[hw] at e;cases e)
theorem mG(i:Nat):(⟨listed⟩:Array Bool).setIfInBounds i true=⟨bD listed i true⟩:=by
 rw[mC];simp
theorem zm{i:Nat}{o:Oper}{v:Value}{L1:FL}(hs:Region.noSelect ops=true)(aT:MD ops.toList listed i=true)(ho:ops[i]?=some o)(hp:∀a,Fm N D L a -> Fm N D L1 (a.put o.dst v))(hv:∀a,Fm N D L a -> VO P ops F w0 o v a H)
  (Qs:∀x∈Rd,x∈H) (hh:Mv ops.toList hards listed i=true \/ ∀a,Fm N D L a -> ∀H',(∀x∈Rd,x∈H') -> VO P ops F w0 o v a H')
  (h:TD P N D F w0 ops hards Rd fuel (bD listed i true) L1 H Q):TD P N D F w0 ops hards Rd (fuel+1) listed L H Q:=by
 intro By a hF
 obtain⟨h1,h2⟩:=Dg aT
 refine Df ho (Region.noSelect_spec hs) fuel _ a H (hh.imp (λ hh=>(Dh hh).2.2) (λ hh=>hh a hF)) Qs By (Region.free_spec ho h2) h1 (hv a hF) ?_
 rw[mG]
 refine h ?_ _ (hp a hF)
 rw[<- mG]
 exact By.set h1
theorem xr{X H F:HL}{w:World}(bY:Rel (X++(H++F)) w):Rel (H++(X++F)) w:=bY.perm (by
 rw[<- List.append_assoc,<- List.append_assoc]
 exact List.Perm.append_right F List.perm_append_comm)
theorem iK{Rr:HL}(hs:Region.noSelect ops=true)(Qs:∀x∈Rd,x∈H)(hR:∀y∈Rr,y∈F):∀ (is:List Nat) (b b':List Bool) (L L':FL) (s s':SS),qO P 0 N ops.toList hards Rd is b L s=some (b',L',s') ->
  s.h=H -> s.r=Rr -> s.wr=false -> (∀p∈s'.eq,p.1=p.2) -> (∀p∈s'.ob,p) ->
  TD P N D F w0 ops hards Rd fuel b' L' H Q -> TD P N D F w0 ops hards Rd (fuel+is.length) b L H Q
 | [],b,b',L,L',s,s',h,_,_,_,_,_,hk=>by
  rw[qO] at h;cases h;exact hk
 | i::is,b,b',L,L',s,s',h,hh,hr,hw,heq,iD,hk=>by
  rw[qO] at h
  split at h
  case h_2=>cases h
  rename_i o VA ho
  have AS:ops[i]?=some o:=by simpa using ho
  split at h
  ·cases h
  ·rename_i s1 Ra
   split at h
   case h_2=>cases h
   rename_i L1 hp
   obtain⟨a1,a2,a3,a4⟩:=bV Ra
   obtain⟨b1,b2⟩:=gV is _ _ _ _ _ _ h
   have TN:∀a,Fm N D L a -> Region.wanted o (yielded ops a.tmps)=false /\ s1.h=s.h /\ s1.cnt=s.cnt:=λ a hF=>cH Ra hF (λ p hp=>iD p (b2 p hp))
   refine λ By a hF=>?_
   obtain⟨c1,c2,c3⟩:=TN a hF
   exact(zm (v:=undef) hs VA AS (λ a hF=>hF.put hp) (λ a hF=>.inr ⟨(TN a hF).1,rfl⟩) Qs (.inr λ a hF H' _=>.inr ⟨(TN a hF).1,rfl⟩)
    (iK hs Qs hR is _ b' L1 L' s1 s' h (by rw[c2];exact hh) (by rw[a3];exact hr) (a4.trans hw) heq iD hk):TD P N D F w0 ops hards Rd (fuel+is.length+1) b L H Q) By a hF
  ·rename_i s1 Ra
   split at h
   ·cases h
   rename_i aT
   obtain⟨a1,a2,a3,a4⟩:=bV Ra
   split at h
   ·rename_i Z3
    split at h
    case h_2=>cases h
    rename_i v s2 he
    split at h
    case h_2=>cases h
    rename_i L1 hp
    obtain⟨d1,d2,d3,d4⟩:=dK he
    obtain⟨b1,b2⟩:=gV is _ _ _ _ _ _ h
    have TN:∀a,Fm N D L a -> Region.wanted o (yielded ops a.tmps)=true /\ s1.h=s.h /\ s1.cnt=s.cnt:=λ a hF=>cH Ra hF (λ p hp=>iD p (b2 p (d2 p hp)))
    refine λ By a hF=>?_
    obtain⟨c1,c2,c3⟩:=TN a hF
    have PO:=MF he (a4.trans hw)
    refine(zm (v:=v) hs VA AS (λ a hF=>hF.put hp) (λ a Ur=>.inl ⟨(TN a Ur).1,λ X w bY hB=>?_⟩) Qs (.inl Z3)
     (iK hs Qs hR is _ b' L1 L' s2 s' h (by rw[PO,c2];exact hh) (by rw[d3,a3];exact hr) (d4.trans (a4.trans hw)) heq iD hk):TD P N D F w0 ops hards Rd (fuel+is.length+1) b L H Q) By a hF
    have PJ:=xr bY
    have Sd:s1.h=H:=by rw[c2];exact hh
    obtain⟨w1,e1,e2,e3,e4,e5⟩:=gc (w:=w) (F:=X++F) he (λ p hp=>heq p (b1 p hp)) (λ p hp=>iD p (b2 p hp)) (by rw[Sd];exact PJ) (by rw[a3,hr];exact λ y hy=>List.mem_append_right _ (hR y hy)) (λ e=>by rw[a4,hw] at e;cases e)
    obtain rfl:=e5 (a4.trans hw)
    unfold fq
    rw[Ur.exec aT,e1]
    exact⟨rfl,bY,hB⟩
   ·split at h
    case h_2=>cases h
    rename_i v s2 he
    split at h
    case h_2=>cases h
    rename_i L1 hp
    obtain⟨d1,d2,d3,d4⟩:=dK he
    obtain⟨b1,b2⟩:=gV is _ _ _ _ _ _ h
    have TN:∀a,Fm N D L a -> Region.wanted o (yielded ops a.tmps)=true /\ s1.h=s.h /\ s1.cnt=s.cnt:=λ a hF=>cH Ra hF (λ p hp=>iD p (b2 p (d2 p hp)))
    have hvo:∀a,Fm N D L a -> ∀H',(∀x∈Rd,x∈H') -> VO P ops F w0 o v a H':=λ a Ur H' Qi=>.inl ⟨(TN a Ur).1,λ X w bY hB=>by
     obtain⟨w1,e1,e2,e3,e4,e5⟩:=gc (w:=w) (F:=X++(H'++F)) he (λ p hp=>heq p (b1 p hp)) (λ p hp=>iD p (b2 p hp)) bY (λ y hy=>by
      rcases List.mem_append.1 hy with hy|hy
      ·exact List.mem_append_right _ (List.mem_append_left _ (Qi y hy))
      ·exact List.mem_append_right _ (List.mem_append_right _ (hR y (by rw[<- hr,<- a3];exact hy)))) (λ e=>by rw[a4,hw] at e;cases e)
     obtain rfl:=e5 (a4.trans hw)
     unfold fq
     rw[Ur.exec aT,e1]
     exact⟨rfl,bY,hB⟩⟩
    refine λ By a hF=>?_
    obtain⟨c1,c2,c3⟩:=TN a hF
    exact(zm (v:=v) hs VA AS (λ a hF=>hF.put hp) (λ a Ur=>hvo a Ur H Qs) Qs (.inr hvo)
     (iK hs Qs hR is _ b' L1 L' _ s' h (by rw[<- hh,<- c2]) (by rw[<- hr,<- a3]) (d4.trans (a4.trans hw)) heq iD hk):TD P N D F w0 ops hards Rd (fuel+is.length+1) b L H Q) By a hF
theorem ux{H Rd:HL}(ix:List Nat)(h:ix.filterMap (H[·]?)=Rd):∀x∈Rd,x∈H:=by
 subst h
 intro x hx
 obtain⟨i,_,hi⟩:=List.mem_filterMap.1 hx
 exact List.mem_of_getElem? hi
theorem TD.all(rs:List Nat)(hr:gU ops.toList listed=rs)(AT:rs≠[])(z_:Nat)(hf:fuel=z_+1)
  (h:∀i∈rs,∀a,Fm N D L a -> Closed ops ⟨bD listed i true⟩ -> OPJ P ops F w0 hards Rd i a H (JJ P ops Q F w0 hards Rd z_ ⟨bD listed i true⟩)):TD P N D F w0 ops hards Rd fuel listed L H Q:=by
 subst hf
 intro By a hF
 have RV:=(kZ ops listed).trans hr
 refine⟨λ e=>absurd (RV.symm.trans e) AT,λ i hi=>?_⟩
 rw[mG]
 refine h i (RV ▸ hi) a hF ?_
 rw[<- mG]
 exact By.set hi
theorem xt{i:Nat}{R:HL}{hints:List Hint}{dst:Option Tmp}{f:FuncId}{args:Array Value}{H1:HL}{E:List Nat}{Ob:List Prop}{o:Oper}(ho:ops.toList[i]?=some o){Hp Hr:HL}{Rv:Value -> HL -> Prop}
  (h:∀n0,mF P n0 N ops.toList i L H R hints=some (dst,f,args,H1,E,E,Ob)) (hR:∀y∈R,y∈F) (iD:AllP Ob) (BY:(Hp++Hr).Perm H1) (hc:Sp P f args Hp (Hr++F) Rv) (a:Act) (hF:Fm N D L a) :
  Region.wanted o (yielded ops a.tmps)=true /\ ∀w,Rel (H++F) w -> Below 0 w0 w -> fq P o a w λ u w'=>∃H',Rv u H' /\ Rel ((H'++Hr)++F) w' /\ Below 0 w w':=by
 have key:∀n0,∃s s',iI ops.toList o L ⟨H,R,hints,0,[],[],true⟩=some (true,s) /\ gS o.op L=true /\ ev P n0 o (jJ L) s=some (.enter f args,s') /\ s'.h=H1 /\ s'.eq.map (·.1)=E /\ s'.eq.map (·.2)=E /\ s'.ob=Ob:=λ n0=>by
  obtain⟨o',s,s',AS,Ra,aT,Rg,_,hh,e1,e2,e3⟩:=gT (h n0)
  obtain rfl:o'=o:=Option.some.inj (AS.symm.trans ho)
  exact⟨s,s',Ra,aT,Rg,hh,e1,e2,e3⟩
 obtain⟨s,s',Ra,aT,Rg,hh,e1,e2,e3⟩:=key 0
 obtain⟨d1,d2,d3,d4⟩:=dK Rg
 refine⟨(cH Ra hF (λ p hp=>AllP.mem iD p (by rw[<- e3];exact d2 p hp))).1,λ w bY hB=>?_⟩
 obtain⟨s,s',Ra,aT,Rg,hh,e1,e2,e3⟩:=key w.heap.size
 obtain⟨a1,a2,a3,a4⟩:=bV Ra
 obtain⟨d1,d2,d3,d4⟩:=dK Rg
 have PQ:∀p∈s'.ob,p:=by rw[e3];exact AllP.mem iD
 obtain⟨c1,c2,c3⟩:=cH Ra hF (λ p hp=>PQ p (d2 p hp))
 obtain⟨w1,r1,r2,r3,r4,r5⟩:=gc (w:=w) (F:=F) Rg (fM e1 e2) PQ (by rw[c2];exact bY) (by rw[a3];exact hR) (λ _=>by rw[c3];rfl)
 unfold fq
 rw[hF.exec aT,r1]
 rw[hh] at r2
 refine(hc w1 (by rw[<- List.append_assoc];exact r2.perm (BY.append_right F))).mono ?_
 rintro e w2 ⟨v,H',rfl,hv,QC,RC⟩
 exact⟨H',hv,by rw[List.append_assoc];exact QC,r3.trans RC⟩
theorem TD.one(i:Nat)(hr:gU ops.toList listed=[i])(z_:Nat)(hf:fuel=z_+1)
  (h:∀a,Fm N D L a -> Closed ops ⟨bD listed i true⟩ -> OPJ P ops F w0 hards Rd i a H (JJ P ops Q F w0 hards Rd z_ ⟨bD listed i true⟩)):TD P N D F w0 ops hards Rd fuel listed L H Q :=
 TD.all [i] hr (by simp) z_ hf λ j hj a hF By=>by
  obtain rfl:j=i:=by simpa using hj
  exact h a hF By
theorem OPJ.perm{hards:List Nat}{Rd:HL}{i:Nat}{a:Act}{H H':HL}{K K':Act -> HL -> Prop}(hK:∀a H1 H2,H1.Perm H2 -> K a H1 -> K' a H2)(hp:H.Perm H')(h:OPJ P ops F w0 hards Rd i a H K):OPJ P ops F w0 hards Rd i a H' K':=by
 unfold OPJ at h ⊢
 cases ho:ops[i]? with
 | none=>rw[ho] at h;exact h
 | some o =>
  rw[ho] at h
  simp only at h ⊢
  split
  ·rename_i hw
   rw[if_pos hw] at h
   intro w hR hB
   refine fV (h w (hR.perm (hp.append_right F)) hB) ?_
   rintro u w' ⟨H1,⟨s1,s2⟩,k1,k2,k3⟩
   by_cases hi:i∈hards
   ·exact⟨H1,⟨λ e=>absurd hi e,s2⟩,hK _ _ _ (List.Perm.refl _) k1,k2,k3⟩
   ·obtain⟨X,rfl⟩:=s1 hi
    have hpx:(X++H).Perm (X++H'):=hp.append_left X
    exact⟨X++H',⟨λ _=>⟨X,rfl⟩,λ e=>absurd e hi⟩,hK _ _ _ hpx k1,k2.perm (hpx.symm.append_right F),k3⟩
  ·rename_i hw
   rw[if_neg hw] at h
   exact hK _ _ _ hp h
theorem JJ.perm{hards:List Nat}{Rd:HL}:∀ (fuel:Nat) (listed:Array Bool) (a:Act) (H H':HL),H.Perm H' -> JJ P ops Q F w0 hards Rd fuel listed a H -> JJ P ops Q F w0 hards Rd fuel listed a H'
 | 0,listed,a,H,H',hp,h=>⟨h.1,λ w hR hB=>h.2 w (hR.perm (hp.append_right F)) hB⟩
 | fuel+1,listed,a,H,H',hp,h=>⟨λ e w hR hB=>h.1 e w (hR.perm (hp.append_right F)) hB,λ i hi=>OPJ.perm (λ a H1 H2 hp h=>JJ.perm fuel _ a H1 H2 hp h) hp (h.2 i hi)⟩
theorem Kw(i j:Nat)(hr:gU ops.toList listed=[i,j])(z_:Nat)(hf:fuel=z_+1)
  (h1:∀a,Fm N D L a -> Closed ops ⟨bD listed i true⟩ -> OPJ P ops F w0 hards Rd i a H (JJ P ops Q F w0 hards Rd z_ ⟨bD listed i true⟩))
  (h2:∀a,Fm N D L a -> Closed ops ⟨bD listed j true⟩ -> OPJ P ops F w0 hards Rd j a H (JJ P ops Q F w0 hards Rd z_ ⟨bD listed j true⟩)):TD P N D F w0 ops hards Rd fuel listed L H Q :=
 TD.all [i,j] hr (by simp) z_ hf λ m hm a hF By=>by
  have:m=i \/ m=j:=by simpa using hm
  rcases this with rfl|rfl
  ·exact h1 a hF By
  ·exact h2 a hF By
theorem Di(i j k:Nat)(hr:gU ops.toList listed=[i,j,k])(z_:Nat)(hf:fuel=z_+1)
  (h1:∀a,Fm N D L a -> Closed ops ⟨bD listed i true⟩ -> OPJ P ops F w0 hards Rd i a H (JJ P ops Q F w0 hards Rd z_ ⟨bD listed i true⟩))
  (h2:∀a,Fm N D L a -> Closed ops ⟨bD listed j true⟩ -> OPJ P ops F w0 hards Rd j a H (JJ P ops Q F w0 hards Rd z_ ⟨bD listed j true⟩))
  (h3:∀a,Fm N D L a -> Closed ops ⟨bD listed k true⟩ -> OPJ P ops F w0 hards Rd k a H (JJ P ops Q F w0 hards Rd z_ ⟨bD listed k true⟩)):TD P N D F w0 ops hards Rd fuel listed L H Q :=
 TD.all [i,j,k] hr (by simp) z_ hf λ m hm a hF By=>by
  have:m=i \/ m=j \/ m=k:=by simpa using hm
  rcases this with rfl|rfl|rfl
  ·exact h1 a hF By
  ·exact h2 a hF By
  ·exact h3 a hF By
end
end Go.Proofs.YthoijjeddhfcnaaGreatDoor
