import Derived.Test.YtjokannbjmndfaaGreatDoorZ01
import Derived.TacticsIn
import Derived.RangeFuncIn
import Derived.OrdersIn
set_option linter.all false
set_option maxHeartbeats 4000000
set_option maxRecDepth 100000
namespace Go.Proofs.YtjokannbjmndfaaGreatDoor
open Go.RowKit
variable {A H H' H1:HL} {D:List Deferred} {E:List Nat} {K:Act->HL->Prop} {L:FL} {N i id j n n0:Nat} {Ob:List Prop} {P:Program} {R:Value->World->Prop} {Ts:List HL} {a a':Act} {args:Array Value} {b:Frame} {fn:Func} {hints:List Hint} {k:List Item} {listed:Array Bool} {o:Oper} {r:Option Nat} {rs:List ResultVar} {s s':SS} {w:World} (ip ir jp jr:List Nat)
def jl(ops:List Oper)(o:Oper)(L:FL)(s:SS):Option (Bool×SS):=match o.guard with
 |none=>some (true,s)
 |some (j,want)=>match (ops[j]?).bind (·.dst) with
  |some d=>match L.lookup d with
   |some (.bool b)=>match s.hints with
    | .gd c::hs=>some (c == want,{ s with hints:=hs,ob:=(b=c)::s.ob })
    | .gen::hs=>some (b == want,{ s with hints:=hs })
    |_=>some (b == want,s)
   |some (.tuple _)=>some (false,s)
   |_=>none
  |none=>none
theorem bZ{ops:Array Oper}{b:Bool}(h:jl ops.toList o L s=some (b,s'))(hF:Fm N D L a)(iS:∀p∈s'.ob,p) :
  Region.wanted o (yielded ops a.tmps)=b/\s'.h=s.h/\s'.cnt=s.cnt:=by
 unfold jl at h;unfold Region.wanted;split at h
 ·rename_i hg;cases h;rw[hg];exact⟨rfl,rfl,rfl⟩
 ·rename_i j want hg;rw[hg];simp only;split at h
  case h_2=>cases h
  rename_i d hd;have Ws:(ops[j]?).bind (·.dst)=some d:=by simpa using hd
  split at h
  ·rename_i x hx;have hy:yielded ops a.tmps j=some x:=by unfold yielded;rw[Ws];simp[hF.has _ _ hx]
   split at h
   ·cases h;have:=iS _ (aaC);subst this;rw[hy];exact⟨by simp,rfl,rfl⟩
   ·cases h;rw[hy];exact⟨by simp,rfl,rfl⟩
   ·cases h;rw[hy];exact⟨by simp,rfl,rfl⟩
  ·rename_i x hx;cases h;have hy:yielded ops a.tmps j=none:=by unfold yielded;rw[Ws];simp[hF.has _ _ hx]
   rw[hy];exact⟨rfl,rfl,rfl⟩
  ·cases h
theorem bH{ops:List Oper}{b:Bool}(h:jl ops o L s=some (b,s')):(∀p∈s.eq,p∈s'.eq)/\(∀p∈s.ob,p∈s'.ob)/\s'.r=s.r/\s'.wr=s.wr:=by
 unfold jl at h
 repeat' split at h
 all_goals first
  | (cases h;done)
  | (cases h;exact⟨λ _ h=>h,λ _ h=>h,rfl,rfl⟩)
  | (cases h;exact⟨λ _ h=>h,λ _ h=>aaD _ h,rfl,rfl⟩)
def xw(P:Program)(n0 N:Nat)(ops:List Oper):List Oper->FL->SS->Option (FL×SS)
 | [],L,s=>some (L,s)
 |o::rest,L,s=>match jl ops o L s with
  |none=>none
  |some (false,s)=>match cD N o.dst undef L with
   |some L=>xw P n0 N ops rest L s
   |none=>none
  |some (true,s)=>match iP o.op L with
   |false=>none
   |true=>match ev P n0 o (cN L) s with
    |some (.value v,s)=>match cD N o.dst v L with
     |some L=>xw P n0 N ops rest L s
     |none=>none
    |some (.skip,s)=>match cD N o.dst undef L with
     |some L=>xw P n0 N ops rest L s
     |none=>none
    |_=>none
theorem lS{P:Program}{n0 N:Nat}{ops:List Oper}:∀ (l:List Oper) (L L':FL) (s s':SS),xw P n0 N ops l L s=some (L',s')->(∀p∈s.eq,p∈s'.eq)/\(∀p∈s.ob,p∈s'.ob)/\s'.r=s.r
 | [],L,L',s,s',h=>by rw[xw] at h;cases h;exact⟨λ _ h=>h,λ _ h=>h,rfl⟩
 |o::rest,L,L',s,s',h=>by
  rw[xw] at h;split at h
  ·cases h
  ·rename_i s1 hw;split at h
   case h_2=>cases h
   obtain⟨a1,a2,a3,a4⟩:=bH hw;obtain⟨b1,b2,b3⟩:=lS rest _ _ _ _ h;exact⟨λ p hp=>b1 p (a1 p hp),λ p hp=>b2 p (a2 p hp),b3.trans a3⟩
  ·rename_i s1 hw;split at h
   ·cases h
   obtain⟨a1,a2,a3,a4⟩:=bH hw;split at h
   ·rename_i v s2 he;split at h
    case h_2=>cases h
    obtain⟨c1,c2,c3,c4⟩:=dk he;obtain⟨b1,b2,b3⟩:=lS rest _ _ _ _ h;exact⟨λ p hp=>b1 p (c1 p (a1 p hp)),λ p hp=>b2 p (c2 p (a2 p hp)),b3.trans (c3.trans a3)⟩
   ·rename_i s2 he;split at h
    case h_2=>cases h
    obtain⟨c1,c2,c3,c4⟩:=dk he;obtain⟨b1,b2,b3⟩:=lS rest _ _ _ _ h;exact⟨λ p hp=>b1 p (c1 p (a1 p hp)),λ p hp=>b2 p (c2 p (a2 p hp)),b3.trans (c3.trans a3)⟩
   ·cases h
def Wr(r:Option Nat):Fence:={ fn:=λ _=>True,depth:=none,alive:=false,round:=r }
theorem jJ{f:FuncId}{R:Ending->World->Prop}(h:Calls P f args w R):CallsIn (Wr r) n P f args w R:=(callsIn_wide (n:=n)).2 h
theorem xx{o:Op}(h:iP o L=true):∀c,o≠ .defer c:=by
 rintro c rfl;simp[iP,bV] at h
theorem Fm.sem(h:Fm N D L a)(ho:iP o.op L=true):o.semAt (Wr r).round a.eval=execOp (cN L) o:=by
 rw[Oper.semAt_eq _ _ _ (xx ho),h.exec ho]
def AllP:List Prop->Prop
 | []=>True
 |p::l=>p/\AllP l
theorem AllP.mem:∀ {l:List Prop},AllP l->∀p∈l,p
 |_::_,h,p,hp=>by
  rcases abL.1 hp with rfl|hp
  ·exact h.1
  ·exact AllP.mem h.2 p hp
def TR(r:Option Nat)(P:Program)(N:Nat)(D:List Deferred)(F:HL)(w0:World)(L:FL)(H:HL)(c:Code)(Q:Exit->Act->World->Prop):Prop :=
 ∀a w,Fm N D L a->Rel (H++F) w->Below 0 w0 w->c.wpIn (Wr r) 0 P Q a w
def EX(N:Nat)(D:List Deferred)(F:HL)(w0:World)(L:FL)(H:HL)(Q:Exit->Act->World->Prop)(e:Exit):Prop :=
 ∀a w,Fm N D L a->Rel (H++F) w->Below 0 w0 w->Q e a w
theorem fP:∀ {l:List (Nat×Nat)} {E:List Nat},l.map (·.1)=E->l.map (·.2)=E->∀p∈l,p.1=p.2
 | [],_,_,_,p,hp=>by cases hp
 |q::l,E,h1,h2,p,hp=>by
  subst h1;simp only[acF,acM] at h2;rcases abL.1 hp with rfl|hp
  ·exact h2.1.symm
  ·exact fP rfl h2.2 p hp
section
variable {r:Option Nat} {P:Program} {N:Nat} {D:List Deferred} {F:HL} {w0:World} {ops:Array Oper} {i:Nat} {L:FL} {H:HL} {Q:Exit->Act->World->Prop}
def Sp(P:Program)(f:FuncId)(args:Array Value)(H F:HL)(R:Value->HL->Prop):Prop :=
 ∀w,Rel (H++F) w->Calls P f args w λ e w'=>∃v H',e=.returned v/\R v H'/\Rel (H'++F) w'/\Below 0 w w'
theorem Sp.mono{f:FuncId}{R R':Value->HL->Prop}(h:Sp P f args H F R)(hr:∀v H',R v H'->R' v H'):Sp P f args H F R' :=
 λ w hR=>(h w hR).mono λ e w' ⟨v,H',h1,h2,h3,h4⟩=>⟨v,H',h1,hr _ _ h2,h3,h4⟩
end
def nO(P:Program)(n0 N:Nat)(ops:List Oper)(i:Nat)(L:FL)(H R:HL)(hints:List Hint):Option (Option Tmp×FuncId×Array Value×HL×List Nat×List Nat×List Prop) :=
 match ops[i]? with
 |none=>none
 |some o=>match jl ops o L ⟨H,R,hints,0,[],[],true⟩ with
  |some (true,s)=>match iP o.op L with
   |true=>match ev P n0 o (cN L) s with
    |some (.enter f args,s')=>match s'.hints with
     | []=>some (o.dst,f,args,s'.h,s'.eq.map (·.1),s'.eq.map (·.2),s'.ob)
     |_=>none
    |_=>none
   |false=>none
  |_=>none
section
variable {r:Option Nat} {P:Program} {N:Nat} {D:List Deferred} {F:HL} {w0:World} {ops:Array Oper} {i:Nat} {L:FL} {H:HL} {Q:Exit->Act->World->Prop}
theorem iT{R:HL}{dst:Option Tmp}{f:FuncId}{E':List Nat}{l:List Oper}
  (h:nO P n0 N l i L H R hints=some (dst,f,args,H1,E,E',Ob)) :
  ∃o s s',l[i]?=some o/\jl l o L ⟨H,R,hints,0,[],[],true⟩=some (true,s)/\iP o.op L=true/\ev P n0 o (cN L) s=some (.enter f args,s')/\o.dst=dst/\s'.h=H1/\s'.eq.map (·.1)=E/\s'.eq.map (·.2)=E'/\s'.ob=Ob:=by
 unfold nO at h;split at h
 ·cases h
 ·rename_i o ho;split at h
  case h_2=>cases h
  rename_i s hs;split at h
  case h_2=>cases h
  rename_i iF;split at h
  case h_2=>cases h
  rename_i f' q_ s' he;split at h
  case h_2=>cases h
  simp only[de,df] at h;obtain⟨e1,e2,e3,e4,e5,e6,e7⟩:=h;subst e2;subst e3;exact⟨o,s,s',ho,hs,iF,he,e1,e4,e5,e6,e7⟩
theorem TR.exit(h:EX N D F w0 L H Q (.exit id)):TR r P N D F w0 L H (.exit id) Q:=λ a w h1 h2 h3=>wpIn_exit (h a w h1 h2 h3)
theorem LB(h:EX N D F w0 L H Q .ret):TR r P N D F w0 L H .ret Q:=λ a w h1 h2 h3=>wpIn_ret (h a w h1 h2 h3)
abbrev ap(A:HL)(Ts:List HL):HL:=A++Ts.flatten
theorem fh{α:Type}(l:List α){ip ir:List Nat}(hp:(ip++ir).isPerm (List.range l.length)=true):(ip.filterMap (l[·]?)++ir.filterMap (l[·]?)).Perm l:=by
 have h1:=(List.isPerm_iff.1 hp).filterMap (l[·]?);have h2:(List.range l.length).filterMap (l[·]?)=l:=by
  clear hp h1
  induction l with
  |nil=>rfl
  |cons x l ih=>
   rw[aaZ,List.range_succ_eq_map,ac3];simp only[ac1,List.filterMap_map];congr 1
 rw[h2,List.filterMap_append] at h1;exact h1
theorem gC(A:HL)(Ts:List HL){ip ir jp jr:List Nat}(hp:(ip++ir).isPerm (List.range A.length)=true)(hj:(jp++jr).isPerm (List.range Ts.length)=true) :
  (ap (ip.filterMap (A[·]?)) (jp.filterMap (Ts[·]?))++ap (ir.filterMap (A[·]?)) (jr.filterMap (Ts[·]?))).Perm (ap A Ts):=by
 have h1:=fh A hp;have h2:=(fh Ts hj).flatten;rw[acT] at h2;refine List.Perm.trans ?_ (List.Perm.append h1 h2);rw[aaF,aaF];refine ab0 _ ?_;rw[<- aaF,<- aaF];exact aa5 _ aa4
theorem nP(A B:HL)(As Bs:List HL)(C:HL):(ap A As++(ap B Bs++C)).Perm (ap (A++B) (As++Bs)++C):=by
 rw[<- aaF];refine aa5 C ?_;show (A++As.flatten++(B++Bs.flatten)).Perm (A++B++(As++Bs).flatten);rw[acT,aaF,aaF];refine ab0 _ ?_;rw[<- aaF,<- aaF];exact aa5 _ aa4
theorem Rel.takeT{F:HL}(hp:(ip++ir).isPerm (List.range A.length)=true)(hj:(jp++jr).isPerm (List.range Ts.length)=true)(e:ap (ip.filterMap (A[·]?)) (jp.filterMap (Ts[·]?))=H')(h:Rel (ap A Ts++F) w):Rel (H'++F) w:=by
 have h1:=h.perm ((gC A Ts hp hj).append_right F);rw[aaF,e] at h1;exact h1.sub ((List.Sublist.refl _).append (List.sublist_append_right _ _))
theorem fL{P:Program}{c:Code}{cs:List Frame} :
  step P (lone (b.atR a (.code (.scope c)::k)) cs w)=.next (lone (b.atR a (.code c:: .inScope c::k)) cs w) :=
 step_lone_go (by simp[stepG,stepG.exec,Frame.atR])
theorem tw{P:Program}{c:Code}{cs:List Frame} :
  step P (lone (b.atR a (.inScope c::k)) cs w)=.next (lone (b.atR a k) cs w) :=
 step_lone_go (by simp[stepG,stepG.exec,Frame.atR])
theorem ij{Fe:Fence}{P:Program}{c:Code}{Q:Exit->Act->World->Prop}(h:c.wpIn Fe n P (Exit.noGoto Q) a w):(Code.scope c).wpIn Fe n P Q a w:=by
 intro b k cs US hb hr;have h0:(lone (b.atR a (.code (.scope c)::k)) cs w).fenced P Fe:=fenced_calm hb hr rfl;obtain⟨e,a₁,w₁,hq,w_⟩:=h b (.inScope c::k) cs US hb hr;cases e with
 |normal=>exact⟨.normal,a₁,w₁,hq,.head h0 fL (StepsIn.trans w_ (.one (fenced_calm hb hr rfl) tw))⟩
 |exit id=>exact⟨.exit id,a₁,w₁,hq,λ k' hk=>.head h0 fL (w_.1 k' (by simp[exitTo,hk])),λ ahl hk=>let ⟨k₁,h1,h2⟩:=w_.2 ahl (by simpa [exitTo] using hk);⟨k₁,h1,.head h0 fL h2⟩⟩
 |goto l=>exact hq.elim
 |ret=>exact⟨_,a₁,w₁,hq,.of_steps (.one h0 fL) w_⟩
 |panic ch=>exact⟨_,a₁,w₁,hq,.of_steps (.one h0 fL) w_⟩
 |outgrown=>exact⟨_,a₁,w₁,hq,.of_steps (.one h0 fL) w_⟩
abbrev vI(n:Int):Value:=.int .i64 n
abbrev vP(b o:Nat):Value:=.pointer (some ⟨b,o,none⟩)
abbrev vS(b o n c:Nat):Value:=.slice (some ⟨b,o,none⟩) n c
def vJ(l:List Value):Nat->Nat->Value:=λ _ k=>(⟨l⟩:Array Value).getD k default
theorem ac{p:Prop}{l:List Prop}(h:p)(k:AllP l):AllP (p::l):=⟨h,k⟩
theorem an:AllP []:=trivial
theorem mc{F R:HL}{x:Nat×Blk}(h:x∈F)(k:∀y∈R,y∈F):∀y∈x::R,y∈F:=λ y hy=>by
 rcases abL.1 hy with rfl|hy
 ·exact h
 ·exact k y hy
theorem mn{F:HL}:∀y∈([]:HL),y∈F:=λ y hy=>by cases hy
def OD{σ:Type}(N:Nat)(D:List Deferred)(F:HL)(w0:World)(Lx:σ->FL)(Hx:σ->HL)(I:σ->Prop)(a:Act)(w:World):Prop :=
 ∃x,I x/\Fm N D (Lx x) a/\Rel (Hx x++F) w/\Below 0 w0 w
theorem TR.loop{σ:Type}(Lx:σ->FL)(Hx:σ->HL)(I:σ->Prop)(μ:σ->Nat){c:Code}(x0:σ)(hi:I x0)(keys:List Nat)(hL:t8 keys L=some (Lx x0))(ip ir jp jr:List Nat)(hp:(ip++ir).isPerm (List.range A.length)=true)(hj:(jp++jr).isPerm (List.range Ts.length)=true)(hH:ap (ip.filterMap (A[·]?)) (jp.filterMap (Ts[·]?))=Hx x0)
  (round:∀x,I x->TR r P N D F w0 (Lx x) (Hx x) c (Exit.then (OD N D F w0 Lx Hx (λ x'=>I x'/\μ x'<μ x)) Q)):TR r P N D F w0 L (ap A Ts) (.loop c) Q:=by
 intro a w h1 h2 h3
 replace h2:=h2.takeT ip ir jp jr hp hj hH
 have key:∀n x,μ x<=n->I x->∀a w,Fm N D (Lx x) a->Rel (Hx x++F) w->Below 0 w0 w->∀ (b:Frame) (k:List Item) (cs:List Frame),b.roundOf=(Wr r).round->(Wr r).fn b.fn->(Wr r).room (cs.length+1+0)->∃e a' w',Q e a' w'/\ArrivesIn (Machine.fenced P (Wr r)) P (lone (b.atR a (.code c:: .inLoop c::k)) cs w) b k cs e a' w':=by
  intro n
  induction n using Nat.strongRecOn with
  |_ n ih=>
   intro x hn hI a w k1 k2 k3 b k cs US hb hr;obtain⟨e,a₁,w₁,hq,w_⟩:=round x hI a w k1 k2 k3 b (.inLoop c::k) cs US hb hr;cases e with
   |normal=>
    obtain⟨x',⟨hI',iN⟩,m1,m2,m3⟩:=hq;obtain⟨e₂,a₂,w₂,WC,UK⟩:=ih (μ x') (by omega) x' (aaI _) hI' a₁ w₁ m1 m2 m3 b k cs US hb hr;exact⟨e₂,a₂,w₂,WC,.of_steps (StepsIn.trans w_ (.one (fenced_calm hb hr rfl) stepR_inLoop)) UK⟩
   |exit id=>exact⟨_,a₁,w₁,hq,.pass (x:=.inLoop c) rfl (λ _ _=>.inl (by simp)) w_⟩
   |goto l=>exact⟨_,a₁,w₁,hq,.pass (x:=.inLoop c) rfl (λ _ _=>.inl (by simp)) w_⟩
   |ret=>exact⟨_,a₁,w₁,hq,.pass (x:=.inLoop c) rfl (λ _ _=>.inl (by simp)) w_⟩
   |panic ch=>exact⟨_,a₁,w₁,hq,.pass (x:=.inLoop c) rfl (λ _ _=>.inl (by simp)) w_⟩
   |outgrown=>exact⟨_,a₁,w₁,hq,.pass (x:=.inLoop c) rfl (λ _ _=>.inl (by simp)) w_⟩
 intro b k cs US hb hr;obtain⟨e,a',w',hq,w_⟩:=key _ x0 (aaI _) hi a w (h1.pick hL) h2 h3 b k cs US hb hr;exact⟨e,a',w',hq,.of_steps (.one (fenced_calm hb hr rfl) stepR_loop) w_⟩
def ub(F:HL)(w0:World)(R:Value->HL->Prop)(e:Ending)(w':World):Prop:=∃v H',e=.returned v/\R v H'/\Rel (H'++F) w'/\Below 0 w0 w'
def ll:Nat->List Value->FL
 |_,[]=>[]
 |n,v::l=>(n,v)::ll (n+1) l
theorem kh:∀ (n:Nat) (l:List Value) (t:Nat) (v:Value),(ll n l).lookup t=some v->n<=t/\l[t-n]?=some v
 |_,[],_,_,h=>by cases h
 |n,u::l,t,v,h=>by
  rw[ll,adh] at h
  by_cases e:t=n
  ·subst e;simp at h;subst h;simp
  ·have:(t == n)=false:=by simpa using e
   rw[this] at h;obtain⟨h1,h2⟩:=kh (n+1) l t v h;refine⟨by omega,?_⟩;have:t-n=(t-(n+1))+1:=by omega
   rw[this];simpa using h2
theorem AC{f:FuncId}{c:Code}{R:Value->HL->Prop}(hf:P.funcs[f]?=some fn)(hb:fn.body=some c)(hn:fn.ntmps=N)(ha:decide (args.size<=N)=true)
  {L:FL} (hL:ll 0 args.toList=L) (h:∀w0,TR none P N [] F w0 L H c (bodyPost P fn (ub F w0 R))):Sp P f args H F R:=by
 intro w hR;refine calls_of_wp hf hb ((wpIn_wide (n:=0)).1 ?_);have ha':args.size<=N:=abh ha;refine h w _ w ⟨?_,rfl,?_⟩ hR (jt _ _)
 ·simp[hn];omega
 ·subst hL;intro t v ht;obtain⟨_,h2⟩:=kh 0 _ t v ht;have h3:args[t]?=some v:=by simpa using h2
  have iN:t<args.size:=(fx.1 h3).1;simp only;rw[acR iN];exact h3
def rm(P:Program)(n0:Nat)(L:FL):List ResultVar->SS->Option (List Value×SS)
 | [],s=>some ([],s)
 | .tmp t::l,s=>match L.lookup t with
  |some v=>match rm P n0 L l s with
   |some (vs,s)=>some (v::vs,s)
   |none=>none
  |none=>none
 | .cell t ty::l,s=>match L.lookup t with
  |some (.pointer (some a))=>match bX P n0 (loadVar ty a) s with
   |some (v,s)=>match rm P n0 L l s with
    |some (vs,s)=>some (v::vs,s)
    |none=>none
   |none=>none
  |_=>none
def SK:List Value->Value
 | [v]=>v
 |vs=>.tuple ⟨vs⟩
def AD(P:Program)(n0:Nat)(L:FL)(rs:List ResultVar)(H R:HL)(hints:List Hint):Option (Value×List Nat×List Nat×List Prop) :=
 match rm P n0 L rs ⟨H,R,hints,0,[],[],false⟩ with
 |some (vs,s)=>match s.hints with
  | []=>some (SK vs,s.eq.map (·.1),s.eq.map (·.2),s.ob)
  |_=>none
 |none=>none
theorem m0{n0:Nat}:∀ (rs:List ResultVar) (s s':SS) (vs:List Value),rm P n0 L rs s=some (vs,s')->(∀p∈s.eq,p∈s'.eq)/\(∀p∈s.ob,p∈s'.ob)
 | [],s,s',vs,h=>by rw[rm] at h;cases h;exact⟨λ _ h=>h,λ _ h=>h⟩
 | .tmp t::l,s,s',vs,h=>by
  rw[rm] at h;split at h
  ·split at h
   ·rename_i hr;cases h;exact m0 l _ _ _ hr
   ·cases h
  ·cases h
 | .cell t ty::l,s,s',vs,h=>by
  rw[rm] at h;split at h
  ·split at h
   ·rename_i ha;split at h
    ·rename_i hr;cases h;obtain⟨a1,a2,_⟩:=dj _ _ _ ha;obtain⟨b1,b2⟩:=m0 l _ _ _ hr;exact⟨λ p hp=>b1 p (a1 p hp),λ p hp=>b2 p (a2 p hp)⟩
    ·cases h
   ·cases h
  ·cases h
def xy(tmps:Array Value):ResultVar->Sem Value
 | .tmp t=>pure (tmps.getD t undef)
 | .cell a t=>do loadVar t (<- asAddr (tmps.getD a undef))
theorem jK{n0:Nat}{a:Act}{w:World}(hF:Fm N D L a)(hR:Rel (H++F) w):∀ (rs:List ResultVar) (s s':SS) (vs:List Value),rm P n0 L rs s=some (vs,s')->s.wr=false->s.h=H->(∀y∈s.r,y∈F)->(s.wr=true->n0+s.cnt=w.heap.size)->
  (∀p∈s'.eq,p.1=p.2)->(∀p∈s'.ob,p)->(rs.mapM (xy a.tmps)).run P w=.ok vs w
 | [],s,s',vs,h,_,_,_,_,_,_=>by rw[rm] at h;cases h;rfl
 | .tmp t::l,s,s',vs,h,hw,hh,hr,hn,heq,iS=>by
  rw[rm] at h;split at h
  ·rename_i v hv;split at h
   ·rename_i O_ s1 Yx;cases h;have ih:=jK hF hR l _ _ _ Yx hw hh hr hn heq iS;rw[aey,abg];simp[xy,hF.has _ _ hv,abg,ih]
   ·cases h
  ·cases h
 | .cell t ty::l,s,s',vs,h,hw,hh,hr,hn,heq,iS=>by
  rw[rm] at h;split at h
  ·rename_i ad hv;split at h
   ·rename_i v s1 ha;split at h
    ·rename_i O_ s2 Yx;cases h;obtain⟨a1,a2,a3,a4⟩:=dj _ _ _ ha;obtain⟨b1,b2⟩:=m0 l _ _ _ Yx;obtain⟨w1,e1,e2,e3,e4,e5⟩:=mZ (F:=F) _ _ _ w ha (λ p hp=>heq p (b1 p hp)) (λ p hp=>iS p (b2 p hp)) (by rw[hh];exact hR) hr hn;obtain rfl:=e5 hw;have hh1:s1.h=H:=by rw[CF _ _ _ ha hw];exact hh
     have ih:=jK hF hR l _ _ _ Yx (a4.trans hw) hh1 (by rw[a3];exact hr) (λ e=>e4 (a4.symm.trans e)) heq iS;rw[aey,abg];simp[xy,hF.has _ _ hv,abg,asAddr,e1,ih]
    ·cases h
   ·cases h
  ·cases h
theorem jm(X4:fn.results=⟨rs⟩){tmps:Array Value}{vs:List Value}(h:(rs.mapM (xy tmps)).run P w=.ok vs w):(results fn tmps).run P w=.ok (SK vs) w:=by
 have h1:(results fn tmps)=(do let vs <- (⟨rs⟩:Array ResultVar).mapM (xy tmps);pure (if h:vs.size=1 then vs[0] else .tuple vs)):=by
  unfold results;rw[X4];congr 1
 rw[h1];have h2:(⟨rs⟩:Array ResultVar).mapM (xy tmps)=List.toArray <$> rs.mapM (xy tmps):=by simp
 rw[h2];have h3:((List.toArray <$> rs.mapM (xy tmps)):Sem (Array Value)).run P w=.ok ⟨vs⟩ w:=by
  rw[map_eq_pure_bind,abg,h];rfl
 rw[abg,h3]
 match vs with
 | []=>rfl
 | [v]=>rfl
 |v::u::l=>simp[SK]
theorem TR.ret{R:Value->HL->Prop}(hQ:∀a w,bodyPost P fn (ub F w0 R) .ret a w->Q .ret a w)(X4:fn.results=⟨rs⟩)(hD:D=[])(Ro:HL)(hints:List Hint)(v:Value)(E:List Nat)(Ob:List Prop) (h:∀n0,AD P n0 L rs (ap A Ts) Ro hints=some (v,E,E,Ob)) (Z8:∀y∈Ro,y∈F) (iS:AllP Ob) (ip ir jp jr:List Nat) (H':HL) (hp:(ip++ir).isPerm (List.range A.length)=true) (hj:(jp++jr).isPerm (List.range Ts.length)=true) (hH:ap (ip.filterMap (A[·]?)) (jp.filterMap (Ts[·]?))=H') (hv:R v H'):TR r P N D F w0 L (ap A Ts) .ret Q:=by
 refine LB ?_;intro a w hF hR hB;refine hQ a w ?_;have h':=h w.heap.size;unfold AD at h';split at h'
 case h_2=>cases h'
 rename_i vs s hs;split at h'
 case h_2=>cases h'
 simp only[de,df] at h';obtain⟨e1,e2,e3,e4⟩:=h';have iO:=jK (P:=P) hF hR rs _ _ _ hs rfl rfl Z8 (λ e=>by cases e) (fP e2 e3) (by rw[e4];exact AllP.mem iS);subst e1;exact⟨hF.defs.trans hD,_,jm X4 iO,_,H',rfl,hv,hR.takeT ip ir jp jr hp hj hH,hB⟩
theorem xz{f:FuncId}{v:Value}(h:∀w,Calls P f args w λ e w'=>e=.returned v/\w'=w)(F:HL):Sp P f args [] F (λ u H'=>u=v/\H'=[]):=λ w hR=>
 (h w).mono λ e w' ⟨h1,h2⟩=>⟨v,[],h1,⟨rfl,rfl⟩,by rw[h2];exact hR,by rw[h2];exact jt _ _⟩
end
def b9(P:Program)(o:Oper)(a:Act)(w:World)(R:Value->World->Prop):Prop:=match (execOp a.eval o).run P w with
 | .ok (.value u) w'=>R u w'
 | .ok .skip w'=>R undef w'
 | .ok (.enter f args) w'=>Calls P f args w' fun
  | .returned u,w''=>R u w''
  |_,_=>False
 |_=>False
theorem eT{R':Value->World->Prop}(h:b9 P o a w R)(hr:∀u w,R u w->R' u w):b9 P o a w R':=by
 unfold b9 at *;split at h
 ·exact hr _ _ h
 ·exact hr _ _ h
 ·exact h.mono λ e w he=>by cases e <;> first|exact hr _ _ he|exact he
 ·exact h
theorem dM{K:Act->World->Prop}{Q:Exit->Act->World->Prop}(hd:∀c,o.op≠ .defer c)(h:b9 P o a w R)(hk:∀u w',R u w'->K (a.put o.dst u) w') :
  o.uponIn (Wr r) 0 P a K Q ((o.semAt (Wr r).round a.eval).run P w):=by
 rw[Oper.semAt_eq _ _ _ hd];unfold b9 at h;split at h
 ·rename_i u w' he;rw[he];exact hk _ _ h
 ·rename_i w' he;rw[he];exact hk _ _ h
 ·rename_i f args w' he;rw[he,Oper.uponIn_enter];exact⟨λ h=>(by cases h),jJ (h.mono λ e w he=>by
   cases e with
   |returned u=>exact hk _ _ he
   |panicked _=>exact he.elim
   |outgrown=>exact he.elim)⟩
 ·exact h.elim
theorem rp(he:execOp a'.eval o=execOp a.eval o)(h:b9 P o a w R):b9 P o a' w R:=by
 unfold b9 at *;rw[he];exact h
section
variable {P:Program} {ops:Array Oper} {Q:Exit->Act->World->Prop} {F:HL} {w0:World} {hards:List Nat} {Rd:HL}
def OPJ(P:Program)(ops:Array Oper)(F:HL)(w0:World)(hards:List Nat)(Rd:HL)(i:Nat)(a:Act)(H:HL)(K:Act->HL->Prop):Prop:=match ops[i]? with
 |none=>False
 |some o=>if Region.wanted o (yielded ops a.tmps)=true then
   ∀w,Rel (H++F) w->Below 0 w0 w->b9 P o a w λ u w'=>∃H',((i∉hards->∃X,H'=X++H)/\(i∈hards->∀x∈Rd,x∈H'))/\K (a.put o.dst u) H'/\Rel (H'++F) w'/\Below 0 w0 w'
  else K (a.put o.dst undef) H
def SL(Q:Exit->Act->World->Prop)(F:HL)(w0:World)(a:Act)(H:HL):Prop:=∀w,Rel (H++F) w->Below 0 w0 w->Q .normal a w
def JJ(P:Program)(ops:Array Oper)(Q:Exit->Act->World->Prop)(F:HL)(w0:World)(hards:List Nat)(Rd:HL):Nat->Array Bool->Act->HL->Prop
 |0,listed,a,H=>Region.ready .any ops listed=[]/\SL Q F w0 a H
 |fuel+1,listed,a,H=>(Region.ready .any ops listed=[]->SL Q F w0 a H)/\
  ∀i∈Region.ready .any ops listed,OPJ P ops F w0 hards Rd i a H (JJ P ops Q F w0 hards Rd fuel (listed.setIfInBounds i true))
def VO(P:Program)(ops:Array Oper)(F:HL)(w0:World)(o:Oper)(v:Value)(a:Act)(H:HL):Prop :=
 (Region.wanted o (yielded ops a.tmps)=true/\∀X w,Rel (X++(H++F)) w->Below 0 w0 w->b9 P o a w λ u w'=>u=v/\Rel (X++(H++F)) w'/\Below 0 w0 w')\/
 (Region.wanted o (yielded ops a.tmps)=false/\v=undef)
theorem VO.same{v:Value}(h:VO P ops F w0 o v a H)(he:execOp a'.eval o=execOp a.eval o)(hw:Region.wanted o (yielded ops a'.tmps)=Region.wanted o (yielded ops a.tmps)):VO P ops F w0 o v a' H:=by
 rcases h with ⟨h1,h2⟩|⟨h1,h2⟩
 ·exact .inl ⟨hw.trans h1,λ X w hR hB=>rp he (h2 X w hR hB)⟩
 ·exact .inr ⟨hw.trans h1,h2⟩
theorem VO.more{v:Value}(h:VO P ops F w0 o v a H)(X:HL):VO P ops F w0 o v a (X++H):=by
 rcases h with ⟨h1,h2⟩|⟨h1,h2⟩
 ·refine .inl ⟨h1,λ Y w hR hB=>?_⟩;have e:Y++(X++H++F)=(Y++X)++(H++F):=by simp
  rw[e] at hR ⊢;exact h2 (Y++X) w hR hB
 ·exact .inr ⟨h1,h2⟩
theorem VO.opj{v:Value}(VX:∀x∈Rd,x∈H)(hi:ops[i]?=some o)(h:VO P ops F w0 o v a H)(hk:K (a.put o.dst v) H):OPJ P ops F w0 hards Rd i a H K:=by
 unfold OPJ;rw[hi];simp only;rcases h with ⟨h1,h2⟩|⟨h1,rfl⟩
 ·rw[if_pos h1];intro w hR hB;refine eT (h2 [] w hR hB) ?_;rintro u w' ⟨rfl,h3,h4⟩;exact⟨H,⟨λ _=>⟨[],rfl⟩,λ _=>VX⟩,hk,h3,h4⟩
 ·rw[if_neg (by rw[h1];simp)];exact hk
def comes(ops:Array Oper)(i:Nat):Nat->Nat->Bool
 |0,_=>false
 |f+1,m=>match ops[m]? with
  |some o=>o.after.toList.any λ e=>Region.binds .any e && (e.on == i || comes ops i f e.on)
  |none=>false
def Closed(ops:Array Oper)(listed:Array Bool):Prop :=
 ∀j oj,ops[j]?=some oj->listed.getD j false=true->∀e∈oj.after,Region.binds .any e=true->listed.getD e.on false=true
theorem Closed.set(h:Closed ops listed)(hj:j∈Region.ready .any ops listed):Closed ops (listed.setIfInBounds j true):=by
 obtain⟨_,oj,hoj,IS⟩:=mem_ready.1 hj;intro k ok hk hl e he hb
 by_cases hjk:j=k
 ·subst hjk;obtain rfl:ok=oj:=ab8 (hk.symm.trans hoj);exact getD_set_true (IS e he hb)
 ·rw[getD_set_ne false hjk] at hl;exact getD_set_true (h k ok hk hl e he hb)
theorem Closed.comes{listed:Array Bool}(h:Closed ops listed){i:Nat}(hi:listed.getD i false=false):∀ (f m:Nat),comes ops i f m=true->listed.getD m false=false
 |0,m,ha=>by simp[YtjokannbjmndfaaGreatDoor.comes] at ha
 |f+1,m,ha=>by
  rw[YtjokannbjmndfaaGreatDoor.comes] at ha;cases hm:ops[m]? with
  |none=>rw[hm] at ha;cases ha
  |some o=>
   rw[hm] at ha;obtain⟨e,he,hb⟩:=List.any_eq_true.1 ha;simp only[abc,Bool.or_eq_true,beq_iff_eq] at hb;cases hl:listed.getD m false with
   |false=>rfl
   |true=>
    have h1:=h m o hm hl e (by simpa using he) hb.1;rcases hb.2 with h2|h2
    ·rw[h2,hi] at h1;cases h1
    ·rw[h.comes hi f e.on h2] at h1;cases h1
theorem rq(h:listed.getD i true=false):listed.getD i false=false:=by
 rcases aa9 i listed.size with h'|h'
 ·simp[h'] at h ⊢;exact h
 ·simp[ac6 h'] at h
theorem GW{oi:Oper}{v:Value}(hi:ops[i]?=some oi)(abA:∀ (j:Nat) (o:Oper) cs b,ops[j]?=some o->o.op≠ .select cs b) :
  ∀ (fuel:Nat) (listed:Array Bool) (a:Act) (H:HL),((∀m∈hards,comes ops i ops.size m=true)\/∀H',(∀x∈Rd,x∈H')->VO P ops F w0 oi v a H')->(∀x∈Rd,x∈H)->Closed ops listed->
   (∀j oj,ops[j]?=some oj->j≠i->listed.getD j true=false->(∀e∈oj.after,Region.binds .any e=true->e.on≠i)->oi.apart ops oj=true)->
   i∈Region.ready .any ops listed->VO P ops F w0 oi v a H->
   JJ P ops Q F w0 hards Rd fuel (listed.setIfInBounds i true) (a.put oi.dst v) H->JJ P ops Q F w0 hards Rd (fuel+1) listed a H:=by
 intro fuel
 induction fuel with
 |zero=>
  intro listed a H _ VX _ _ hr hy Vx;refine⟨λ h=>(by rw[h] at hr;cases hr),λ j hj=>?_⟩
  by_cases Zq:j=i
  ·subst Zq;exact hy.opj VX hi Vx
  ·have:=ready_mono hj Zq;rw[Vx.1] at this;cases this
 |succ fuel ih=>
  intro listed a H hh VX Q_ aa0 hr hy hJ;refine⟨λ h=>(by rw[h] at hr;cases hr),λ j hj=>?_⟩
  by_cases Zq:j=i
  ·subst Zq;exact hy.opj VX hi hJ
  ·have h1:=hJ.2 j (ready_mono hj Zq);obtain⟨abX,oj,hoj,IS⟩:=mem_ready.1 hj;have aeB:=(mem_ready.1 hr).1;have ahE:∀e∈oj.after,Region.binds .any e=true->e.on≠i:=λ e he hb heq=>by
    have h1:=IS e he hb;rw[heq,rq aeB] at h1;cases h1
   obtain⟨p1,p2,p3⟩:=Oper.apart_spec (aa0 j oj hoj Zq abX ahE);have acd:=Q_.set hj;have aeA:(listed.setIfInBounds j true).getD i false=false:=by rw[getD_set_ne false Zq];exact rq aeB
   have ahZ:j<listed.size:=by
    rcases aa9 j listed.size with h|h
    ·exact h
    ·simp[ac6 h] at abX
   have hjn:(∀m∈hards,comes ops i ops.size m=true)->j∉hards:=λ hh hm=>by
    have h2:=acd.comes aeA _ j (hh j hm);simp[ahZ] at h2
   have YM:∀k ok,ops[k]?=some ok->k≠i->(listed.setIfInBounds j true).getD k true=false->
     (∀e∈ok.after,Region.binds .any e=true->e.on≠i)->oi.apart ops ok=true:=λ k ok hk hki hun VJ=>by
    refine aa0 k ok hk hki ?_ VJ
    by_cases hjk:j=k
    ·subst hjk;exact abX
    ·rw[getD_set_ne true hjk] at hun;exact hun
   have Zl:=ready_mono hr (Ne.symm Zq);unfold OPJ at h1 ⊢;rw[hoj] at h1 ⊢;simp only at h1 ⊢;rw[wanted_put oj a oi.dst v p1] at h1;have keep:∀u,VO P ops F w0 oi v (a.put oj.dst u) H:=λ u=>hy.same (execOp_put oi (λ cs b=>abA i oi cs b hi) a oj.dst u p3) (wanted_put oi a oj.dst u p3);have Yh:(∀H',(∀x∈Rd,x∈H')->VO P ops F w0 oi v a H')->∀u H',(∀x∈Rd,x∈H')->VO P ops F w0 oi v (a.put oj.dst u) H':=λ hh u H' hr=>(hh H' hr).same (execOp_put oi (λ cs b=>abA i oi cs b hi) a oj.dst u p3) (wanted_put oi a oj.dst u p3)
   by_cases hw:Region.wanted oj (yielded ops a.tmps)=true
   ·rw[if_pos hw] at h1 ⊢;intro w hR hB;refine eT (rp (execOp_put oj (λ cs b=>abA j oj cs b hoj) a oi.dst v p1).symm (h1 w hR hB)) ?_;rintro u w' ⟨H',hx,h2,h3,h4⟩;refine⟨H',hx,?_,h3,h4⟩;have ae9:∀x∈Rd,x∈H':=by
     by_cases hjh:j∈hards
     ·exact hx.2 hjh
     ·obtain⟨X,rfl⟩:=hx.1 hjh;exact λ x hx=>aaz _ (VX x hx)
    have hy':VO P ops F w0 oi v (a.put oj.dst u) H':=by
     rcases hh with hh|hh
     ·obtain⟨X,rfl⟩:=hx.1 (hjn hh);exact(keep u).more X
     ·exact Yh hh u H' ae9
    refine ih _ _ _ (hh.imp id λ hh=>Yh hh u) ae9 acd YM Zl hy' ?_;rw[Array.setIfInBounds_comm _ _ Zq,<- Act.put_comm a v u p2];exact h2
   ·rw[if_neg hw] at h1 ⊢;refine ih _ _ _ (hh.imp id λ hh=>Yh hh undef) VX acd YM Zl (keep undef) ?_;rw[Array.setIfInBounds_comm _ _ Zq,<- Act.put_comm a v undef p2];exact h1
end
def jB(ops:List Oper)(listed:List Bool):List Nat :=
 (List.range ops.length).filter λ i=>!(listed.getD i true) && ((ops[i]?).map (·.after.toList.all λ e=>!Region.binds .any e || listed.getD e.on false)).getD false
theorem lU(ops:Array Oper)(listed:List Bool):Region.ready .any ops ⟨listed⟩=jB ops.toList listed:=by
 unfold Region.ready jB;rw[Array.length_toList];apply List.filter_congr;intro i _;simp only[aaA,acY,aaG,acy];congr 1;cases ops[i]? with
 |none=>rfl
 |some o=>simp
def Qt(ops:List Oper)(hards:List Nat)(listed:List Bool)(i:Nat):Bool :=
 (jB ops listed).contains i && Region.free .any ⟨ops⟩ ⟨listed⟩ i && hards.all (λ m=>comes ⟨ops⟩ i ops.length m)
def QC(ops:List Oper)(listed:List Bool)(i:Nat):Bool :=
 (jB ops listed).contains i && Region.free .any ⟨ops⟩ ⟨listed⟩ i
def TD(P:Program)(N:Nat)(D:List Deferred)(F:HL)(w0:World)(ops:Array Oper)(hards:List Nat)(Rd:HL)(fuel:Nat)(listed:List Bool)(L:FL)(H:HL)(Q:Exit->Act->World->Prop):Prop :=
 Closed ops ⟨listed⟩->∀a,Fm N D L a->JJ P ops Q F w0 hards Rd fuel ⟨listed⟩ a H
section
variable {r:Option Nat} {P:Program} {N:Nat} {D:List Deferred} {F:HL} {w0:World} {ops:Array Oper} {hards:List Nat} {Rd:HL} {fuel:Nat} {listed:List Bool} {L:FL} {H:HL} {Q:Exit->Act->World->Prop}
theorem xA:Closed ops ⟨List.replicate n false⟩:=by
 intro j oj _ hl;exfalso;rcases aa9 j n with h|h
 ·simp[h] at hl
 ·simp[h] at hl
def qJ(ops:Array Oper):Bool:=ops.all λ o=>match o.op with | .defer _=>false|_=>true
theorem vK(h:qJ ops=true)(c:Call)(ho:ops[j]?=some o):o.op≠ .defer c:=by
 intro heq;have:=Array.all_eq_true_iff_forall_mem.1 h o (Array.mem_of_getElem? ho);simp[heq] at this
theorem jC(hd:qJ ops=true):∀ (fuel:Nat) (listed:Array Bool) (a:Act) (H:HL) (w:World),JJ P ops (NoPanic Q) F w0 hards Rd fuel listed a H->Rel (H++F) w->Below 0 w0 w->wpAnyIn (Wr r) 0 P .any ops Q fuel listed a w
 |0,_,a,H,w,h,hR,hB=>⟨h.1,h.2 w hR hB⟩
 |fuel+1,listed,a,H,w,h,hR,hB=>by
  refine⟨λ hr=>h.1 hr w hR hB,λ i hi=>?_⟩;have h1:=h.2 i hi;unfold OPJ at h1;unfold wpOpIn;cases ho:ops[i]? with
  |none=>rw[ho] at h1;exact h1.elim
  |some o=>
   rw[ho] at h1;simp only at h1 ⊢
   by_cases hw:Region.wanted o (yielded ops a.tmps)=true
   ·rw[if_pos hw] at h1 ⊢;refine⟨λ _ _=>trivial,dM (λ c=>vK hd c ho) (h1 w hR hB) ?_⟩;rintro u w' ⟨H',_,h2,h3,h4⟩;exact jC hd fuel _ _ H' w' h2 h3 h4
   ·rw[if_neg hw] at h1 ⊢;exact⟨λ _ _=>trivial,jC hd fuel _ _ H w h1 hR hB⟩
theorem TR.draw(hards:List Nat)(Rd:HL)(hm:P.follows .mixedOrders=true)(hs:Region.noSelect ops=true)(hd:qJ ops=true)(h:TD P N D F w0 ops hards Rd ops.size (List.replicate ops.toList.length false) L H (NoPanic Q)):TR r P N D F w0 L H (.region id ops true) Q:=by
 intro a w h1 h2 h3;refine wpIn_region_any hm ?_;have h4:=h (xA) a h1;have e:Array.replicate ops.size false=⟨List.replicate ops.toList.length false⟩:=by simp
 rw[e];refine jC hd (hards:=hards) (Rd:=Rd) _ _ _ H _ h4 (h2.world rfl) ⟨h3.os,h3.tape,h3.output,h3.size,λ k hk=>by omega⟩
theorem TD.fin(hr:jB ops.toList listed=[])(h:EX N D F w0 L H Q .normal):TD P N D F w0 ops hards Rd fuel listed L H Q:=by
 intro _ a hF;have Zl:=(lU ops listed).trans hr;have hx:SL Q F w0 a H:=λ w hR hB=>h a w hF hR hB;cases fuel with
 |zero=>exact⟨Zl,hx⟩
 |succ n=>exact⟨λ _=>hx,λ i hi=>by rw[Zl] at hi;cases hi⟩
theorem QD(h:EX N D F w0 L H Q .normal):EX N D F w0 L H (NoPanic Q) .normal:=h
def tz(P:Program)(n0 N:Nat)(ops:List Oper)(hards:List Nat)(Rd:HL):List Nat->List Bool->FL->SS->Option (List Bool×FL×SS)
 | [],listed,L,s=>some (listed,L,s)
 |i::is,listed,L,s=>match QC ops listed i,ops[i]? with
  |true,some o=>match jl ops o L s with
   |none=>none
   |some (false,s)=>match cD N o.dst undef L with
    |some L=>tz P n0 N ops hards Rd is (aS listed i true) L s
    |none=>none
   |some (true,s)=>match iP o.op L with
    |false=>none
    |true=>match Qt ops hards listed i with
     |true=>match ev P n0 o (cN L) s with
      |some (.value v,s)=>match cD N o.dst v L with
       |some L=>tz P n0 N ops hards Rd is (aS listed i true) L s
       |none=>none
      |_=>none
     |false=>match ev P n0 o (cN L) { s with h:=[],r:=Rd++s.r } with
      |some (.value v,s')=>match cD N o.dst v L with
       |some L=>tz P n0 N ops hards Rd is (aS listed i true) L { s' with h:=s.h,r:=s.r }
       |none=>none
      |_=>none
  |_,_=>none
theorem GX(h:QC ops.toList listed i=true):i∈Region.ready .any ops ⟨listed⟩/\Region.free .any ops ⟨listed⟩ i=true:=by
 unfold QC at h;simp only[abc,abI] at h;exact⟨by rw[lU];exact h.1,h.2⟩
theorem GY(h:Qt ops.toList hards listed i=true):i∈Region.ready .any ops ⟨listed⟩/\Region.free .any ops ⟨listed⟩ i=true/\∀m∈hards,comes ops i ops.size m=true:=by
 unfold Qt at h;simp only[abc,abI,adt] at h;obtain⟨⟨h1,h2⟩,h3⟩:=h;exact⟨by rw[lU];exact h1,h2,λ m hm=>by simpa using h3 m hm⟩
theorem iU{n0:Nat}{l:List Oper}:∀ (is:List Nat) (b b':List Bool) (L L':FL) (s s':SS),tz P n0 N l hards Rd is b L s=some (b',L',s')->(∀p∈s.eq,p∈s'.eq)/\(∀p∈s.ob,p∈s'.ob)
 | [],b,b',L,L',s,s',h=>by rw[tz] at h;cases h;exact⟨λ _ h=>h,λ _ h=>h⟩
 |i::is,b,b',L,L',s,s',h=>by
  rw[tz] at h;split at h
  case h_2=>cases h
  split at h
  ·cases h
  ·rename_i hw;split at h
   case h_2=>cases h
   obtain⟨a1,a2,_⟩:=bH hw;obtain⟨b1,b2⟩:=iU is _ _ _ _ _ _ h;exact⟨λ p hp=>b1 p (a1 p hp),λ p hp=>b2 p (a2 p hp)⟩
  ·rename_i hw;split at h
   ·cases h
   split at h
   all_goals
    split at h
    case h_2=>cases h
    rename_i he;split at h
    case h_2=>cases h
    obtain⟨a1,a2,_⟩:=bH hw;obtain⟨c1,c2,_⟩:=dk he;obtain⟨b1,b2⟩:=iU is _ _ _ _ _ _ h;exact⟨λ p hp=>b1 p (c1 p (a1 p hp)),λ p hp=>b2 p (c2 p (a2 p hp))⟩
theorem QE{ρ:Operand->Value}{x:Next}(h:ev P n0 o ρ s=some (x,s'))(hw:s.wr=false):s'.h=s.h:=by
 unfold ev at h
 repeat' split at h
 all_goals first
  |exact(CF _ _ _ h hw :)
  | (cases h;done)
  | (cases h;rfl)
  | (rename_i e;rw[hw] at e;cases e)
theorem nQ(i:Nat):(⟨listed⟩:Array Bool).setIfInBounds i true=⟨aS listed i true⟩:=by
 rw[nK];simp
theorem CI{v:Value}{L1:FL}(hs:Region.noSelect ops=true)(iF:QC ops.toList listed i=true)(ho:ops[i]?=some o)(hp:∀a,Fm N D L a->Fm N D L1 (a.put o.dst v))(hv:∀a,Fm N D L a->VO P ops F w0 o v a H)
  (VX:∀x∈Rd,x∈H) (hh:Qt ops.toList hards listed i=true\/∀a,Fm N D L a->∀H',(∀x∈Rd,x∈H')->VO P ops F w0 o v a H')
  (h:TD P N D F w0 ops hards Rd fuel (aS listed i true) L1 H Q):TD P N D F w0 ops hards Rd (fuel+1) listed L H Q:=by
 intro Q_ a hF;obtain⟨h1,h2⟩:=GX iF;refine GW ho (Region.noSelect_spec hs) fuel _ a H (hh.imp (λ hh=>(GY hh).2.2) (λ hh=>hh a hF)) VX Q_ (Region.free_spec ho h2) h1 (hv a hF) ?_;rw[nQ];refine h ?_ _ (hp a hF);rw[<- nQ];exact Q_.set h1
theorem AE{X H F:HL}(aT:Rel (X++(H++F)) w):Rel (H++(X++F)) w:=aT.perm (by
 rw[<- aaF,<- aaF];exact aa5 F aa4)
theorem jn{Rr:HL}(hs:Region.noSelect ops=true)(VX:∀x∈Rd,x∈H)(hR:∀y∈Rr,y∈F):∀ (is:List Nat) (b b':List Bool) (L L':FL) (s s':SS),tz P 0 N ops.toList hards Rd is b L s=some (b',L',s')->
  s.h=H->s.r=Rr->s.wr=false->(∀p∈s'.eq,p.1=p.2)->(∀p∈s'.ob,p)->
  TD P N D F w0 ops hards Rd fuel b' L' H Q->TD P N D F w0 ops hards Rd (fuel+is.length) b L H Q
 | [],b,b',L,L',s,s',h,_,_,_,_,_,hk=>by
  rw[tz] at h;cases h;exact hk
 |i::is,b,b',L,L',s,s',h,hh,hr,hw,heq,iS,hk=>by
  rw[tz] at h;split at h
  case h_2=>cases h
  rename_i o abO ho;have ID:ops[i]?=some o:=by simpa using ho
  split at h
  ·cases h
  ·rename_i s1 WW;split at h
   case h_2=>cases h
   rename_i L1 hp;obtain⟨a1,a2,a3,a4⟩:=bH WW;obtain⟨b1,b2⟩:=iU is _ _ _ _ _ _ h;have ZG:∀a,Fm N D L a->Region.wanted o (yielded ops a.tmps)=false/\s1.h=s.h/\s1.cnt=s.cnt:=λ a hF=>bZ WW hF (λ p hp=>iS p (b2 p hp));refine λ Q_ a hF=>?_;obtain⟨c1,c2,c3⟩:=ZG a hF;exact(CI (v:=undef) hs abO ID (λ a hF=>hF.put hp) (λ a hF=>.inr ⟨(ZG a hF).1,rfl⟩) VX (.inr λ a hF H' _=>.inr ⟨(ZG a hF).1,rfl⟩)
    (jn hs VX hR is _ b' L1 L' s1 s' h (by rw[c2];exact hh) (by rw[a3];exact hr) (a4.trans hw) heq iS hk):TD P N D F w0 ops hards Rd (fuel+is.length+1) b L H Q) Q_ a hF
  ·rename_i s1 WW;split at h
   ·cases h
   rename_i iF;obtain⟨a1,a2,a3,a4⟩:=bH WW;split at h
   ·rename_i ahA;split at h
    case h_2=>cases h
    rename_i v s2 he;split at h
    case h_2=>cases h
    rename_i L1 hp;obtain⟨d1,d2,d3,d4⟩:=dk he;obtain⟨b1,b2⟩:=iU is _ _ _ _ _ _ h;have ZG:∀a,Fm N D L a->Region.wanted o (yielded ops a.tmps)=true/\s1.h=s.h/\s1.cnt=s.cnt:=λ a hF=>bZ WW hF (λ p hp=>iS p (b2 p (d2 p hp)));refine λ Q_ a hF=>?_;obtain⟨c1,c2,c3⟩:=ZG a hF;have US:=QE he (a4.trans hw);refine(CI (v:=v) hs abO ID (λ a hF=>hF.put hp) (λ a hF'=>.inl ⟨(ZG a hF').1,λ X w aT hB=>?_⟩) VX (.inl ahA)
     (jn hs VX hR is _ b' L1 L' s2 s' h (by rw[US,c2];exact hh) (by rw[d3,a3];exact hr) (d4.trans (a4.trans hw)) heq iS hk):TD P N D F w0 ops hards Rd (fuel+is.length+1) b L H Q) Q_ a hF
    have UL:=AE aT;have X3:s1.h=H:=by rw[c2];exact hh
    obtain⟨w1,e1,e2,e3,e4,e5⟩:=gI (w:=w) (F:=X++F) he (λ p hp=>heq p (b1 p hp)) (λ p hp=>iS p (b2 p hp)) (by rw[X3];exact UL) (by rw[a3,hr];exact λ y hy=>aaz _ (hR y hy)) (λ e=>by rw[a4,hw] at e;cases e);obtain rfl:=e5 (a4.trans hw);unfold b9;rw[hF'.exec iF,e1];exact⟨rfl,aT,hB⟩
   ·split at h
    case h_2=>cases h
    rename_i v s2 he;split at h
    case h_2=>cases h
    rename_i L1 hp;obtain⟨d1,d2,d3,d4⟩:=dk he;obtain⟨b1,b2⟩:=iU is _ _ _ _ _ _ h;have ZG:∀a,Fm N D L a->Region.wanted o (yielded ops a.tmps)=true/\s1.h=s.h/\s1.cnt=s.cnt:=λ a hF=>bZ WW hF (λ p hp=>iS p (b2 p (d2 p hp)));have hvo:∀a,Fm N D L a->∀H',(∀x∈Rd,x∈H')->VO P ops F w0 o v a H':=λ a hF' H' Vb=>.inl ⟨(ZG a hF').1,λ X w aT hB=>by
     obtain⟨w1,e1,e2,e3,e4,e5⟩:=gI (w:=w) (F:=X++(H'++F)) he (λ p hp=>heq p (b1 p hp)) (λ p hp=>iS p (b2 p hp)) aT (λ y hy=>by
      rcases np.1 hy with hy|hy
      ·exact aaz _ (aaB _ (Vb y hy))
      ·exact aaz _ (aaz _ (hR y (by rw[<- hr,<- a3];exact hy)))) (λ e=>by rw[a4,hw] at e;cases e)
     obtain rfl:=e5 (a4.trans hw);unfold b9;rw[hF'.exec iF,e1];exact⟨rfl,aT,hB⟩⟩
    refine λ Q_ a hF=>?_;obtain⟨c1,c2,c3⟩:=ZG a hF;exact(CI (v:=v) hs abO ID (λ a hF=>hF.put hp) (λ a hF'=>hvo a hF' H VX) VX (.inr hvo)
     (jn hs VX hR is _ b' L1 L' _ s' h (by rw[<- hh,<- c2]) (by rw[<- hr,<- a3]) (d4.trans (a4.trans hw)) heq iS hk):TD P N D F w0 ops hards Rd (fuel+is.length+1) b L H Q) Q_ a hF
theorem rt{H Rd:HL}(ix:List Nat)(h:ix.filterMap (H[·]?)=Rd):∀x∈Rd,x∈H:=by
 subst h;intro x hx;obtain⟨i,_,hi⟩:=List.mem_filterMap.1 hx;exact go hi
theorem TD.all(rs:List Nat)(hr:jB ops.toList listed=rs)(u_:rs≠[])(Uo:Nat)(hf:fuel=Uo+1)
  (h:∀i∈rs,∀a,Fm N D L a->Closed ops ⟨aS listed i true⟩->OPJ P ops F w0 hards Rd i a H (JJ P ops Q F w0 hards Rd Uo ⟨aS listed i true⟩)):TD P N D F w0 ops hards Rd fuel listed L H Q:=by
 subst hf;intro Q_ a hF;have Zl:=(lU ops listed).trans hr;refine⟨λ e=>absurd (Zl.symm.trans e) u_,λ i hi=>?_⟩;rw[nQ];refine h i (Zl▸hi) a hF ?_;rw[<- nQ];exact Q_.set hi
theorem AF{R:HL}{dst:Option Tmp}{f:FuncId}(ho:ops.toList[i]?=some o){Hp Hr:HL}{Rv:Value->HL->Prop}
  (h:∀n0,nO P n0 N ops.toList i L H R hints=some (dst,f,args,H1,E,E,Ob)) (hR:∀y∈R,y∈F) (iS:AllP Ob) (o_:(Hp++Hr).Perm H1) (hc:Sp P f args Hp (Hr++F) Rv) (hF:Fm N D L a) :
  Region.wanted o (yielded ops a.tmps)=true/\∀w,Rel (H++F) w->Below 0 w0 w->b9 P o a w λ u w'=>∃H',Rv u H'/\Rel ((H'++Hr)++F) w'/\Below 0 w w':=by
 have key:∀n0,∃s s',jl ops.toList o L ⟨H,R,hints,0,[],[],true⟩=some (true,s)/\iP o.op L=true/\ev P n0 o (cN L) s=some (.enter f args,s')/\s'.h=H1/\s'.eq.map (·.1)=E/\s'.eq.map (·.2)=E/\s'.ob=Ob:=λ n0=>by
  obtain⟨o',s,s',ID,WW,iF,Ux,_,hh,e1,e2,e3⟩:=iT (h n0);obtain rfl:o'=o:=ab8 (ID.symm.trans ho);exact⟨s,s',WW,iF,Ux,hh,e1,e2,e3⟩
 obtain⟨s,s',WW,iF,Ux,hh,e1,e2,e3⟩:=key 0;obtain⟨d1,d2,d3,d4⟩:=dk Ux;refine⟨(bZ WW hF (λ p hp=>AllP.mem iS p (by rw[<- e3];exact d2 p hp))).1,λ w aT hB=>?_⟩;obtain⟨s,s',WW,iF,Ux,hh,e1,e2,e3⟩:=key w.heap.size;obtain⟨a1,a2,a3,a4⟩:=bH WW;obtain⟨d1,d2,d3,d4⟩:=dk Ux;have UU:∀p∈s'.ob,p:=by rw[e3];exact AllP.mem iS
 obtain⟨c1,c2,c3⟩:=bZ WW hF (λ p hp=>UU p (d2 p hp));obtain⟨w1,r1,r2,r3,r4,r5⟩:=gI (w:=w) (F:=F) Ux (fP e1 e2) UU (by rw[c2];exact aT) (by rw[a3];exact hR) (λ _=>by rw[c3];rfl);unfold b9;rw[hF.exec iF,r1];rw[hh] at r2;refine(hc w1 (by rw[<- aaF];exact r2.perm (o_.append_right F))).mono ?_;rintro e w2 ⟨v,H',rfl,hv,VM,Xs⟩;exact⟨H',hv,by rw[aaF];exact VM,r3.trans Xs⟩
theorem TD.one(i:Nat)(hr:jB ops.toList listed=[i])(Uo:Nat)(hf:fuel=Uo+1)
  (h:∀a,Fm N D L a->Closed ops ⟨aS listed i true⟩->OPJ P ops F w0 hards Rd i a H (JJ P ops Q F w0 hards Rd Uo ⟨aS listed i true⟩)):TD P N D F w0 ops hards Rd fuel listed L H Q :=
 TD.all [i] hr (by simp) Uo hf λ j hj a hF Q_=>by
  obtain rfl:j=i:=by simpa using hj
  exact h a hF Q_
theorem OPJ.perm{hards:List Nat}{Rd:HL}{H:HL}{K':Act->HL->Prop}(hK:∀a H1 H2,H1.Perm H2->K a H1->K' a H2)(hp:H.Perm H')(h:OPJ P ops F w0 hards Rd i a H K):OPJ P ops F w0 hards Rd i a H' K':=by
 unfold OPJ at h ⊢;cases ho:ops[i]? with
 |none=>rw[ho] at h;exact h
 |some o=>
  rw[ho] at h;simp only at h ⊢;split
  ·rename_i hw;rw[if_pos hw] at h;intro w hR hB;refine eT (h w (hR.perm (hp.append_right F)) hB) ?_;rintro u w' ⟨H1,⟨s1,s2⟩,k1,k2,k3⟩
   by_cases hi:i∈hards
   ·exact⟨H1,⟨λ e=>absurd hi e,s2⟩,hK _ _ _ (List.Perm.refl _) k1,k2,k3⟩
   ·obtain⟨X,rfl⟩:=s1 hi;have hpx:(X++H).Perm (X++H'):=hp.append_left X;exact⟨X++H',⟨λ _=>⟨X,rfl⟩,λ e=>absurd e hi⟩,hK _ _ _ hpx k1,k2.perm (hpx.symm.append_right F),k3⟩
  ·rename_i hw;rw[if_neg hw] at h;exact hK _ _ _ hp h
theorem JJ.perm{hards:List Nat}{Rd:HL}:∀ (fuel:Nat) (listed:Array Bool) (a:Act) (H H':HL),H.Perm H'->JJ P ops Q F w0 hards Rd fuel listed a H->JJ P ops Q F w0 hards Rd fuel listed a H'
 |0,listed,a,H,H',hp,h=>⟨h.1,λ w hR hB=>h.2 w (hR.perm (hp.append_right F)) hB⟩
 |fuel+1,listed,a,H,H',hp,h=>⟨λ e w hR hB=>h.1 e w (hR.perm (hp.append_right F)) hB,λ i hi=>OPJ.perm (λ a H1 H2 hp h=>JJ.perm fuel _ a H1 H2 hp h) hp (h.2 i hi)⟩
theorem OE(hr:jB ops.toList listed=[i,j]){Uo:Nat}(hf:fuel=Uo+1)
  (h1:∀a,Fm N D L a->Closed ops ⟨aS listed i true⟩->OPJ P ops F w0 hards Rd i a H (JJ P ops Q F w0 hards Rd Uo ⟨aS listed i true⟩))
  (h2:∀a,Fm N D L a->Closed ops ⟨aS listed j true⟩->OPJ P ops F w0 hards Rd j a H (JJ P ops Q F w0 hards Rd Uo ⟨aS listed j true⟩)):TD P N D F w0 ops hards Rd fuel listed L H Q :=
 TD.all [i,j] hr (by simp) Uo hf λ m hm a hF Q_=>by
  have:m=i\/m=j:=by simpa using hm
  rcases this with rfl|rfl
  ·exact h1 a hF Q_
  ·exact h2 a hF Q_
end
end Go.Proofs.YtjokannbjmndfaaGreatDoor
