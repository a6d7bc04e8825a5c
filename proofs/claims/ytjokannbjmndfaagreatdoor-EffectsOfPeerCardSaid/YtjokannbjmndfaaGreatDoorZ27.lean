import Derived.Test.YtjokannbjmndfaaGreatDoorZ26
set_option linter.all false
set_option maxHeartbeats 4000000
set_option maxRecDepth 100000
namespace Go.Proofs.YtjokannbjmndfaaGreatDoor
open Go.RowKit
variable {F:Fence} {P:Program} {Q:Exit->Act->World->Prop} {a:Act} {fn:Fn} {n n':Nat} {o:Oper} {t ty:TypeId} {w:World}
inductive TgR(ν:Nu):Target->Target->Prop
 |fn {f f':Fn} {c c':Array Value}:FnR ν f f'->LR ν c.toList c'.toList->TgR ν (.fn f c) (.fn f' c')
 |coll {h b K:Nat}:ν h=some (b,K)->TgR ν (.collected h) (.collected b)
structure DR(ν:Nu)(d d':Deferred):Prop where
 t:TgR ν d.target d'.target
 a:LR ν d.args.toList d'.args.toList
def Tk(P:Program)(ν:Nu)(F:HL)(n:Nat)(s:Sem Next)(w:World):AN->Prop
 | .val v H' n'=>∃ν' v' w' r,s.run P w=.ok r w'/\(r=.value v'\/(r=.skip/\v'=undef))/\VRi ν' v v'/\Ext ν ν' n n'/\HR ν' H' F w'/\Below 0 w w'
 | .ent f args=>∃q_,s.run P w=.ok (.enter f ⟨q_⟩) w/\LR ν args q_
 | .rnd l args=>∃b K q_,ν l=some (b,K)/\LR ν args q_/\s.run P w=(Instr.yield b ⟨q_⟩).run P w
 | .dfr d=>∃d',s.run P w=.ok (.defer d') w/\DR ν d d'
 | .rcv=>s.run P w=.ok .recover w
section ap
variable {ν ν':Nu} {P:Program} {G N:Nat} {T T':Tr Value} {a:Act} {H H':AH} {F:HL} {w w':World}
theorem TgR.mono{t t':Target}(h:TgR ν t t')(hl:ν.Le ν'):TgR ν' t t':=by
 cases h with
 |fn h1 h2=>exact .fn (h1.mono hl) (h2.mono hl)
 |coll h=>exact .coll (hl _ _ h)
theorem DR.mono{d d':Deferred}(h:DR ν d d')(hl:ν.Le ν'):DR ν' d d':=⟨h.t.mono hl,h.a.mono hl⟩
theorem sF{f c:Array Value}{v':Value}(h:VRi ν (.func fn f c) v'):∃fn' f' c',v'=.func fn' f' c'/\FnR ν fn fn'/\LR ν f.toList f'.toList/\LR ν c.toList c'.toList:=by
 cases h with
 |atom _ h=>simp[cq] at h
 |func h1 h2 h3 h4 h5=>exact⟨_,_,_,rfl,h1,.of_arr h2 h3,.of_arr h4 h5⟩
theorem Jt{u el:TypeId}{x x' y y':Value}{v:Value}(hH:HR ν H F w)(ht:P.underlying t=some (.slice el))(hx:VRi ν x x')(hy:VRi ν y y')(h:yV P H n el x y=some (.val v H' n')) :
  Effi P ν F n (Builtin.copy_ #[t,u] ty #[x',y']) w v H' n':=by
 unfold yV at h;split at h
 case h_2=>cases h
 rename_i k hk;split at h
 case h_2=>cases h
 rename_i ad dl cx b sl cc;split at h
 case h_2=>cases h
 rename_i vs Xw Uv;split at h
 case h_2=>cases h
 rename_i H2 hp;cases h;cases hx with
 |atom _ h=>simp[cq] at h
 | @slice hd bb K _ c' o _ hν hc=>
 have hy2:∃b',y'=.slice b' sl (match y' with | .slice _ _ c=>c|_=>0)/\∀c,VRi ν (.slice b (Nat.min sl dl) c) (.slice b' (Nat.min sl dl) c)\/b≠none:=by
  cases hy with
  |atom _ h=>cases b with
   |none=>exact⟨none,rfl,λ c=>.inl (.atom _ rfl)⟩
   |some _=>simp[cq] at h
  |slice o n hν hc=>exact⟨_,rfl,λ c=>.inr (by simp)⟩
 have hfc:∃O_,LR ν vs O_/\(Builtin.firstCells k (Nat.min sl dl) y').run P w=.ok O_.toArray w:=by
  have hyy:∃yy,VRi ν (.slice b (Nat.min sl dl) cc) yy/\(Builtin.firstCells k (Nat.min sl dl) y').run P w=(Builtin.firstCells k (Nat.min sl dl) yy).run P w:=by
   cases hy with
   |atom _ h=>cases b with
    |none=>exact⟨.slice none (Nat.min sl dl) cc,.atom _ rfl,rfl⟩
    |some _=>simp[cq] at h
   |slice o n hν hc=>exact⟨_,.slice o _ hν hc,rfl⟩
  obtain⟨yy,h1,h2⟩:=hyy;obtain⟨O_,q1,q2,q3,q4,q5⟩:=mf (u:=t) hH ht h1 Uv;exact⟨O_,q1,by rw[h2];exact q5⟩
 obtain⟨O_,hl,hfc⟩:=hfc;obtain⟨q1,q2,q3,q4,q5⟩:=pH hH hν hl hp;obtain⟨b',hy3,-⟩:=hy2;have n_:=run_storeCells_cells (P:=P) bb o O_ 0 w (by simpa using q1) (by simpa using q2) q3;refine⟨ν,.int .i64 ((Nat.min sl dl:Nat):Int),_,?_,.atom _ rfl,.refl _ _,q4,q5⟩;have hlen:∀W,(Builtin.lenOf y').run P W=.ok sl W:=λ W=>by rw[hy3];rfl
 have hs:=dX hk w;unfold Builtin.copy_;simp only[acY,ac1,ace];rw[abg,aE ht];simp only[abf,abg,hlen,hs,hfc];simp only[acK] at n_;rw[n_];rfl
theorem iC{f:FuncId}{args:Array Value}(h:sf P f=true)(w:World):(callFunc f args).run P w=.ok (.enter f args) w:=by
 unfold sf at h;split at h
 ·rename_i fn hf;rw[abc] at h;obtain⟨h1,h2⟩:=h;unfold callFunc;rw[nM];simp only[hf];rw[if_neg (by simpa using h1),if_neg (by cases hb:fn.body <;> simp[hb] at h2 ⊢)];rfl
 ·cases h
theorem nv{c:Call}{f:Operand}{f1 c1:Array Value}{ρ:Operand->Value}(hc:c.callee=.value f)(hf:ρ f=.func fn f1 c1)(w:World):(resolve ρ c ty).run P w=.ok { target:=.fn fn c1,args:=f1++c.args.map ρ } w:=by
 unfold resolve;rw[hc];simp only[hf,Deferred.ofValue];rfl
theorem Ju{c:Call}{x:AN}(h:Ja P H n c T=some x):∃v H' n',x=.val v H' n':=by
 unfold Ja yU uM se ja at h
 repeat' split at h
 all_goals first
  | (cases h;done)
  | (cases h;exact⟨_,_,_,rfl⟩)
theorem FN{c:Call}{x:AN}(h:yW P H n c T=some x):∃v H' n',x=.val v H' n':=by
 unfold yW yV at h
 repeat' split at h
 all_goals first
  | (cases h;done)
  | (cases h;exact⟨_,_,_,rfl⟩)
theorem Dl{s:Sem Value}{s':Sem Next}{v:Value}(h:Effi P ν F n s w v H' n')(e:s'.run P w=(do pure (.value (<- s)):Sem Next).run P w):Tk P ν F n s' w (.val v H' n'):=by
 obtain⟨ν',v',w',h1,h2,h3,h4,h5⟩:=h;refine⟨ν',v',w',.value v',?_,.inl rfl,h2,h3,h4,h5⟩;rw[e,abg,h1];rfl
theorem FO{name:String}{f:FuncId}{v:Value}(h:Jb P t name=some f)(w:World):(method (P.types.size+Made.depth) t v name).run P w=.ok (f,v) w:=by
 unfold Jb at h;split at h
 case h_2=>cases h
 rename_i i hi abM;split at h
 case h_2=>cases h
 rename_i m hm;obtain⟨k,hk⟩:∃k,P.types.size+Made.depth=k+1:=⟨_,(Nat.succ_pred_eq_of_pos (dF abM)).symm⟩;rw[hk];have aeH:m.path.toList=[]->(follow m.path.toList t (.val v)).run P w=.ok (t,.val v) w:=λ e=>by rw[e];rfl
 split at h
 ·rename_i g e hp hf hu;cases h;unfold method;rw[abg,cL hi];simp only[abf,hm];rw[abg,aeH hp];simp only[abf,hf];rw[abg];have:∀wr,(receiverAt t (.val v) true wr).run P w=.ok v w:=λ wr=>by
   unfold receiverAt;rw[abg,aE hu];rfl
  rw[this];rfl
 ·cases h
 ·rename_i g d hnp hp hf hu;cases h;unfold method;rw[abg,cL hi];simp only[abf,hm];rw[abg,aeH hp];simp only[abf,hf];rw[abg];have:∀wr,(receiverAt t (.val v) false wr).run P w=.ok v w:=λ wr=>by
   unfold receiverAt;rw[abg,aE hu];simp only[abf];cases d <;> first|rfl|exact(hnp _ rfl).elim
  rw[this];rfl
 ·cases h
theorem MA{x:AN}(hH:HR ν H F w)(h:nk P o T H n=some x){l:List Operand}(hl:i9 o.op=some l)(iF:OK ν T a l)(hn:∀v H' n',x=.val v H' n'->Fr ν n n'):Tk P ν F n (execOp a.eval o) w x:=by
 unfold nk at h;split at h
 ·rename_i t p y ho;rw[ho] at hl;simp only[i9,bV,de] at hl;subst hl;have hp:=iF p (by simp);split at h
  ·rename_i ad e;split at h
   ·rename_i H2 hs;cases h;rw[e] at hp;generalize hu:a.eval p=u at hp;have hp2:=hp;cases hp with
    |atom _ h=>simp[cq] at h
    |ptr o h=>
     obtain⟨w',q1,q2,q3⟩:=FK hH hp2 (iF y (by simp)) hs;refine⟨ν,undef,w',.skip,?_,.inr ⟨rfl,rfl⟩,aau,.refl _ _,q2,q3⟩;simp[execOp,ho,Instr.storeAt,Instr.sureAddr,hu,abg,q1]
   ·cases h
  ·cases h
 ·rename_i t m k y ho;rw[ho] at hl;simp only[i9,bV,de] at hl;subst hl;split at h
  ·rename_i H2 hs;cases h;obtain⟨hp,w',q1,q2,q3⟩:=Dk hH (iF m (by simp)) (iF y (by simp)) hs;have hk:=(iF k (by simp)).plain_eq hp;refine⟨ν,undef,w',.skip,?_,.inr ⟨rfl,rfl⟩,aau,.refl _ _,q2,q3⟩;simp[execOp,ho,hk,abg,q1]
  ·cases h
 ·rename_i t m k y ho;rw[ho] at hl;simp only[i9,bV,de] at hl;subst hl;split at h
  ·rename_i H2 hs;cases h;obtain⟨hp,w',q1,q2,q3⟩:=Dk hH (iF m (by simp)) (iF y (by simp)) hs;have hk:=(iF k (by simp)).plain_eq hp;refine⟨ν,undef,w',.skip,?_,.inr ⟨rfl,rfl⟩,aau,.refl _ _,q2,q3⟩;simp[execOp,ho,hk,abg,q1]
  ·cases h
 ·rename_i c ho;split at h
  case h_2=>cases h
  rename_i f hc;split at h
  case h_2=>cases h
  rename_i fn first captured e
  cases h;rw[ho] at hl;simp only[i9,hc,de] at hl;subst hl;have hf:=iF f (by simp);rw[e] at hf;obtain⟨fn',f',c',e',r1,r2,r3⟩:=sF hf;have ha:=lG (l:=c.args.toList) (λ x hx=>iF x (aaD _ hx));refine⟨{ target:=.fn fn' c',args:=f'++c.args.map a.eval },?_,⟨.fn r1 r3,?_⟩⟩
  ·unfold Go.execOp;rw[ho];simp only;rw[abg,nv hc e'];rfl
  ·simpa using r2.append ha
 ·rename_i c ho;split at h
  ·rename_i f hc;have Uy:l=f::c.args.toList:=by
    rw[ho] at hl;simp only[i9,bV,hc,de] at hl;rw[<- hl];rfl
   split at h
   ·rename_i x' UZ;cases h;subst Uy;have hf:=iF f (by simp);have ha:=lG (l:=c.args.toList) (λ x hx=>iF x (aaD _ hx));have iO:∀fn' f' c',a.eval f=.func fn' f' c'->(execOp a.eval o).run P w=(invoke (.fn fn' c') (f'++c.args.map a.eval)).run P w:=λ fn' f' c' e'=>by
     unfold Go.execOp;rw[ho];simp only;rw[abg,nv hc e'];rfl
    unfold qW at UZ;split at UZ
    case h_2=>cases UZ
    rename_i fn first captured e
    rw[e] at hf;obtain⟨fn',f',c',e',r1,r2,r3⟩:=sF hf;split at UZ
    ·split at UZ
     ·rename_i hb;cases UZ;cases r1;refine⟨f'.toList++(c.args.toList.map a.eval++c'.toList),?_,r2.append (ha.append r3)⟩;rw[iO _ _ _ e'];show (callFunc _ (f'++c.args.map a.eval++c')).run P w=_;rw[iC hb];congr 2;apply Array.ext';simp
     ·cases UZ
    ·rename_i lp;split at UZ
     ·rename_i hfi;cases UZ;cases r1 with
      | @yield _ b K hν=>
      rw[hfi] at r2;refine⟨b,K,_,hν,ha,?_⟩;rw[iO _ _ _ e'];have hf0:f'=#[]:=by
       apply Array.ext';generalize f'.toList=q at r2;cases r2;rfl
      subst hf0;show (Instr.yield b (#[]++c.args.map a.eval)).run P w=_;congr 2;apply Array.ext';simp
     ·cases UZ
    ·cases UZ
   ·split at h
    ·rename_i v hv;cases h;have We:bV o.op=some l:=by
      rw[ho] at hl ⊢;exact hl
     obtain⟨v',r,e⟩:=pF hv We iF;exact⟨ν,v',w,_,e w,.inl rfl,r,.refl _ _,hH,jt _ _⟩
    ·cases h
  ·rename_i b hc;split at h
   ·obtain⟨v,H2,n2,rfl⟩:=Ju h;have Xk:=hn v H2 n2 rfl;unfold Ja at h;split at h
    case h_2=>cases h
    rename_i cl x y t u;simp only at hc;subst hc;split at h
    case h_2=>cases h
    rename_i el he hs;have Uy:l=[x,y]:=by
     rw[ho] at hl;simp only[i9,bV,de] at hl;rw[<- hl];rfl
    subst Uy;have hu:∃e',P.underlying u=some (.slice e'):=by
     unfold Rz at hs;split at hs
     ·rename_i e1;exact⟨_,e1⟩
     ·cases hs
    obtain⟨e',hu⟩:=hu;have hr:∃cs,(resolve a.eval ⟨.builtin .append,⟨[x,y]⟩,⟨[t,u]⟩⟩ o.type).run P w=.ok { target:=.builtin .append #[t,u] o.type cs,args:=#[a.eval x,a.eval y] } w:=by
     refine⟨(⟨[x,y]⟩:Array Operand).map (λ | .const _=>true|_=>false),?_⟩;unfold resolve;have e:(⟨[x,y]⟩:Array Operand).map a.eval=#[a.eval x,a.eval y]:=by simp
     simp only[e];rfl
    obtain⟨cs,hr⟩:=hr;refine Dl (Mz (ty:=o.type) hH (md he) hu (iF x (by simp)) (iF y (by simp)) Xk h) ?_;unfold Go.execOp;rw[ho];simp only;rw[abg,hr];rfl
   ·obtain⟨v,H2,n2,rfl⟩:=FN h;unfold yW at h;split at h
    case h_2=>cases h
    rename_i cl x y t u;simp only at hc;subst hc;split at h
    case h_2=>cases h
    rename_i el he;have Uy:l=[x,y]:=by
     rw[ho] at hl;simp only[i9,bV,de] at hl;rw[<- hl];rfl
    subst Uy;have hr:∃cs,(resolve a.eval ⟨.builtin .copy,⟨[x,y]⟩,⟨[t,u]⟩⟩ o.type).run P w=.ok { target:=.builtin .copy #[t,u] o.type cs,args:=#[a.eval x,a.eval y] } w:=by
     refine⟨(⟨[x,y]⟩:Array Operand).map (λ | .const _=>true|_=>false),?_⟩;unfold resolve;have e:(⟨[x,y]⟩:Array Operand).map a.eval=#[a.eval x,a.eval y]:=by simp
     simp only[e];rfl
    obtain⟨cs,hr⟩:=hr;refine Dl (Jt (u:=u) (ty:=o.type) hH (md he) (iF x (by simp)) (iF y (by simp)) h) ?_;unfold Go.execOp;rw[ho];simp only;rw[abg,hr];rfl
   ·cases h;show (execOp a.eval o).run P w=_;unfold Go.execOp;rw[ho];simp only;rw[abg];unfold resolve;rw[hc];rfl
   ·cases h
  ·rename_i recv name hc;have Uy:l=recv::c.args.toList:=by
    rw[ho] at hl;simp only[i9,bV,hc,de] at hl;rw[<- hl];rfl
   subst Uy;split at h
   case h_2=>cases h
   rename_i t v e;split at h
   case h_2=>cases h
   rename_i f hf;split at h
   case h_2=>cases h
   rename_i hB;cases h;have hr:=iF recv (by simp);rw[e] at hr;have ha:=lG (l:=c.args.toList) (λ x hx=>iF x (aaD _ hx));generalize hu:a.eval recv=u at hr;cases hr with
   |atom _ h=>simp[cq] at h
   | @iface _ v' _ hv=>
   refine⟨v'::c.args.toList.map a.eval,?_,.cons hv ha⟩;unfold Go.execOp;rw[ho];simp only;rw[abg];have h1:(resolve a.eval c o.type).run P w=.ok { target:=.fn (.method name) #[],args:=#[.iface t v']++c.args.map a.eval } w:=by
    unfold resolve;rw[hc];simp only[hu];rfl
   rw[h1];simp only[abf];have h2:(invoke (.fn (.method name) #[]) (#[.iface t v']++c.args.map a.eval)).run P w=(callMethod (.iface t v') name (c.args.map a.eval)).run P w:=by
    unfold invoke;have e1:(#[Value.iface t v']++c.args.map a.eval)[0]?=some (.iface t v'):=by rw[acR (by simp)];rfl
    have e2:(#[Value.iface t v']++c.args.map a.eval).extract 1 (#[Value.iface t v']++c.args.map a.eval).size=c.args.map a.eval:=by
     apply Array.ext';simp;rw[WP (by simp)]
    simp only[e1,e2]
   rw[h2];unfold callMethod;simp only;rw[nM,abg,FO hf];simp only[abf];rw[iC hB];congr 2;apply Array.ext';simp
 ·cases h
theorem mg{o:Op}{l:List Operand}(h:i9 o=some l)(hd:∀c,o≠ .defer c):bV o=some l:=by
 cases o <;> first|exact h|exact(hd _ rfl).elim
end ap
def Glb(ν:Nu)(G:Nat):Prop:=∀k,k<G->∃K,ν k=some (k,K)
def Jv(ν:Nu)(v:Value)(n n':Nat)(H':AH)(F:HL)(w:World)(e:Ending)(w':World):Prop :=
 ∃ν' v',e=.returned v'/\VRi ν' v v'/\Ext ν ν' n n'/\HR ν' H' F w'/\Below 0 w w'
inductive DsR(ν:Nu):List Deferred->List Deferred->Prop
 |nil:DsR ν [] []
 |cons {d d':Deferred} {l l':List Deferred}:DR ν d d'->DsR ν l l'->DsR ν (d::l) (d'::l')
inductive RR(ν:Nu):Option Nat->Option Nat->Prop
 |none:RR ν none none
 |some {l b K:Nat}:ν l=some (b,K)->RR ν (some l) (some b)
def Ex.out:Ex->Exit
 | .normal=>.normal
 | .exit id=>.exit id
 | .ret=>.ret
structure SR(ν:Nu)(G N:Nat)(s:St)(F:HL)(a:Act)(w:World):Prop where
 g:Glb ν G
 t:TRel ν N s.T a.tmps
 d:DsR ν s.D a.defers
 h:HR ν s.H F w
def Dm(F:Fence)(n:Nat)(P:Program)(c:Code)(Q:Exit->Act->World->Prop)(a:Act)(w:World):Prop :=
 ∀ (b:Frame) (k:List Item) (cs:List Frame),b.roundOf=F.round->F.fn b.fn->F.room (cs.length+1+n)->
  ∃e a' w',Q e a' w'/\ArrivesIn (Machine.fenced P F) P (lone (b.atR a (.code c:: .inLoop c::k)) cs w) b k cs e a' w'
theorem B6{c:Code}(h:Dm F n P c Q a w):(Code.loop c).wpIn F n P Q a w:=by
 intro b k cs US hb hr;obtain⟨e,a',w',hq,w_⟩:=h b k cs US hb hr;exact⟨e,a',w',hq,.of_steps (.one (fenced_calm hb hr rfl) stepR_loop) w_⟩
theorem zt{c:Code}(h:c.wpIn F n P (Exit.then (Dm F n P c Q) Q) a w):Dm F n P c Q a w:=by
 intro b k cs US hb hr;obtain⟨e,a₁,w₁,hq,w_⟩:=h b (.inLoop c::k) cs US hb hr;cases e with
 |normal=>
  obtain⟨e₂,a₂,w₂,WC,UK⟩:=hq b k cs US hb hr;exact⟨e₂,a₂,w₂,WC,.of_steps (StepsIn.trans w_ (.one (fenced_calm hb hr rfl) stepR_inLoop)) UK⟩
 |exit id=>exact⟨_,a₁,w₁,hq,.pass (x:=.inLoop c) rfl (λ _ _=>.inl (by simp)) w_⟩
 |goto l=>exact⟨_,a₁,w₁,hq,.pass (x:=.inLoop c) rfl (λ _ _=>.inl (by simp)) w_⟩
 |ret=>exact⟨_,a₁,w₁,hq,.pass (x:=.inLoop c) rfl (λ _ _=>.inl (by simp)) w_⟩
 |panic ch=>exact⟨_,a₁,w₁,hq,.pass (x:=.inLoop c) rfl (λ _ _=>.inl (by simp)) w_⟩
 |outgrown=>exact⟨_,a₁,w₁,hq,.pass (x:=.inLoop c) rfl (λ _ _=>.inl (by simp)) w_⟩
def jH(P:Program)(G:Nat):Task->Rs->Prop
 | .fn f args H n,.fn v H' n'=>n<=n'/\∀ν F w q_,Glb ν G->Fr ν n n'->HR ν H F w->LR ν args q_->Calls P f ⟨q_⟩ w (Jv ν v n n' H' F w)
 | .rnd l T N as bo H n,.fn v H' n'=>n<=n'/\∀ν F w b K tm f r',Glb ν G->ν l=some (b,K)->TRel ν N T tm->Fr ν n n'->HR ν H F w->RoundIn (Wr r') 0 P b f tm as bo w (Jv ν v n n' H' F w)
 | .code r N c s,.cd e s'=>s.n<=s'.n/\∀ν F a w r' Q,RR ν r r'->SR ν G N s F a w->Fr ν s.n s'.n->(∀ν' a' w',Ext ν ν' s.n s'.n->SR ν' G N s' F a' w'->Below 0 w w'->Q e.out a' w')->c.wpIn (Wr r') 0 P Q a w
 | .loop r N c s,.cd e s'=>s.n<=s'.n/\∀ν F a w r' Q,RR ν r r'->SR ν G N s F a w->Fr ν s.n s'.n->(∀ν' a' w',Ext ν ν' s.n s'.n->SR ν' G N s' F a' w'->Below 0 w w'->Q e.out a' w')->Dm (Wr r') 0 P c Q a w
 | .dfn f args H n,.fn v H' n'=>n<=n'/\∀ν F w q_,Glb ν G->Fr ν n n'->HR ν H F w->LR ν args q_->CallsDIn (Wr none) 0 P f ⟨q_⟩ .returning w (λ e u' w'=>u'=.returning/\Jv ν v n n' H' F w e w')
 |_,_=>True
def kD(P:Program)(G:Nat)(ih:Task->Option Rs):Prop:=∀t res,ih t=some res->jH P G t res
section ops
variable {ν ν':Nu} {P:Program} {G N:Nat} {T T':Tr Value} {a:Act} {H H':AH} {F:HL} {w w':World} {r r':Option Nat} {ih:Task->Option Rs}
theorem Glb.mono(h:Glb ν G)(hl:ν.Le ν'):Glb ν' G:=λ k hk=>let ⟨K,e⟩:=h k hk;⟨K,hl _ _ e⟩
theorem DsR.mono{l l':List Deferred}(h:DsR ν l l')(hl:ν.Le ν'):DsR ν' l l':=by
 induction h with
 |nil=>exact .nil
 |cons h _ ih=>exact .cons (h.mono hl) ih
theorem RR.mono(h:RR ν r r')(hl:ν.Le ν'):RR ν' r r':=by
 cases h with
 |none=>exact .none
 |some h=>exact .some (hl _ _ h)
theorem HR.loop(h:HR ν H F w){k:Nat}{st:LoopState}{pend:Option Code}{T:Tr Value}{N:Nat}{ps:Array Tmp}{as bo:Code}{d r K:Nat}(hk:bS H k=some (.loop st pend T N ps as bo d))(hr:ν k=some (r,K)) :
  ∃lp:Loop,w.heap[r]?=some (.loop lp)/\lp.state=st/\lp.pending=pend/\TRel ν N T lp.tmps/\lp.params=ps/\lp.assign=as/\lp.body=bo/\∃K',ν d=some (lp.defers,K'):=by
 obtain⟨r',K',o,h1,h2,h3⟩:=h.blk _ _ hk;rw[hr] at h1;cases h1;unfold OR at h3;split at h3
 ·rename_i e1;cases e1
 ·rename_i e1;cases e1
 ·rename_i e1;cases e1;exact⟨_,h2,h3⟩
 ·rename_i e1;cases e1
 ·exact h3.elim
theorem gT{l:Nat}{lp:Loop}(h:w.heap[l]?=some (.loop lp)):(Instr.getLoop l).run P w=.ok lp w:=by
 unfold Instr.getLoop;rw[abg];have:(getObj l).run P w=.ok (.loop lp) w:=by
  unfold getObj;rw[acW];simp only[h];rfl
 rw[this];rfl
theorem u9:∀ {ps:List Tmp} {vs O_:List Value} {T:Tr Value} {tm:Array Value},LR ν vs O_->TRel ν N T tm->Df N ps=true->TRel ν N (Jc ps vs T) ((ps.zip O_).foldl (λ tmps (p:Tmp×Value)=>tmps.setIfInBounds p.1 p.2) tm)
 | [],vs,O_,T,tm,hl,ht,_=>by cases vs <;> exact ht
 |p::ps,[],O_,T,tm,hl,ht,_=>by cases hl;exact ht
 |p::ps,v::vs,O_,T,tm,hl,ht,iN=>by
  cases hl with
  |cons hv hl=>
   rw[Df] at iN;split at iN
   ·rename_i hp;have h2:=u9 (ps:=ps) hl (ht.set (dF hp) hv) iN;exact h2
   ·cases iN
theorem FP{b:Nat}{lp:Loop}{args:List Value}(h:w.heap[b]?=some (.loop lp))(hs:args.length=lp.params.size) :
  (Instr.yield b ⟨args⟩).run P w=.ok (.round b lp.fn ((lp.params.toList.zip args).foldl (λ tmps (p:Tmp×Value)=>tmps.setIfInBounds p.1 p.2) lp.tmps) lp.assign lp.body) w:=by
 unfold Instr.yield;rw[abg,gT h];simp only[abf];rw[if_neg (by simp[hs])];have:(Array.foldl (λ (tmps:Array Value) (x:Tmp×Value)=>tmps.setIfInBounds x.1 x.2) lp.tmps (lp.params.zip ⟨args⟩))=((lp.params.toList.zip args).foldl (λ tmps (p:Tmp×Value)=>tmps.setIfInBounds p.1 p.2) lp.tmps):=by
  rw[<- adN,afV]
 rw[<- this];rfl
def Tl(P:Program)(ν:Nu)(F:HL)(n:Nat)(r r':Option Nat)(a:Act)(w:World)(o:Oper):OpR->Prop
 | .val v H' n'=>Fr ν n n'->∀ (next:Act->World->Prop) (Q:Exit->Act->World->Prop),(∀ν' v' w',VRi ν' v v'->Ext ν ν' n n'->HR ν' H' F w'->Below 0 w w'->next (a.put o.dst v') w')->o.wpIn (Wr r') 0 P a w next Q
 | .dfr d=>r=none/\∀ (next:Act->World->Prop) (Q:Exit->Act->World->Prop),(∀d',DR ν d d'->next ({ a with defers:=d'::a.defers }.put o.dst undef) w)->o.wpIn (Wr r') 0 P a w next Q
theorem Jw{c:Call}{x:AN}(ho:o.op=.defer c)(h:De P G o T H n=some x):∃d,x=.dfr d:=by
 unfold De at h;split at h
 ·cases h
 split at h
 ·cases h
 rw[ho] at h;simp only[tj,nk,ho] at h;split at h
 ·split at h
  ·cases h;exact⟨_,rfl⟩
  ·cases h
 ·cases h
theorem mh{x:AN}(iF:∀l,i9 o.op=some l->tL G l=true->OK ν T a l)(hH:HR ν H F w)(h:De P G o T H n=some x)(hn:∀v H' n',x=.val v H' n'->Fr ν n n'):Tk P ν F n (execOp a.eval o) w x:=by
 unfold De at h;split at h
 ·cases h
 rename_i l hl;split at h
 ·cases h
 rename_i hk;have iF:=iF l hl hk;split at h
 ·rename_i hc;split at h
  ·rename_i v hv;cases h;have Xi:=mg hl (λ c e=>by rw[e] at hc;cases hc);obtain⟨v',r,e⟩:=zk hv Xi iF;exact⟨ν,v',w,_,e w,.inl rfl,r,.refl _ _,hH,jt _ _⟩
  ·cases h
 ·rename_i hc;split at h
  ·rename_i v hv;cases h;have Xi:=mg hl (λ c e=>by rw[e] at hc;cases hc);obtain⟨v',r,e⟩:=zp hH hv Xi iF;exact⟨ν,v',w,_,e,.inl rfl,r,.refl _ _,hH,jt _ _⟩
  ·cases h
 ·rename_i hc;split at h
  ·rename_i b m hv;cases h;have Xi:=mg hl (λ c e=>by rw[e] at hc;cases hc);obtain⟨h1,h2,o',h3,h4⟩:=Dj hv Xi iF;have aeh:ν n=none:=hn _ _ _ rfl n (aaI _) (by omega);exact⟨ν.upd n w.heap.size 0,_,_,_,h4 w,.inl rfl,Jo h2 b6,.upd,hH.new aeh (h3 0) h1 rfl,⟨rfl,rfl,rfl,by simp,λ k hk=>by omega⟩⟩
  ·cases h
 ·exact MA hH h hl iF hn
theorem wD{v:Value}(h:De P G o T H n=some (.val v H' n')):n<=n':=by
 have key:nk P o T H n=some (.val v H' n')->n<=n':=by
  intro h;unfold nk qW Ja yW yU yV uM se ja at h
  repeat' split at h
  all_goals first
   | (cases h;done)
   | (cases h;omega)
   | (rename_i hx;simp only[de] at h;subst h;(repeat' (split at hx)) <;> first|(cases hx;done)|(cases hx;omega))
 unfold De at h;split at h
 ·cases h
 split at h
 ·cases h
 split at h
 ·split at h
  ·cases h;omega
  ·cases h
 ·split at h
  ·cases h;omega
  ·cases h
 ·split at h
  ·unfold Pu at h;cases h;omega
  ·cases h
 ·exact key h
theorem wE(By:kD P G ih){x:OpR}(hg:Glb ν G)(hr:RR ν r r')(iF:∀l,i9 o.op=some l->tL G l=true->OK ν T a l)(hH:HR ν H F w)(h:jW P G ih r o T H n=some x):(∀v H' n',x=.val v H' n'->n<=n')/\Tl P ν F n r r' a w o x:=by
 have hA:∀f,o.about P w a.eval=some f->(Wr r').fn f:=λ _ _=>trivial;unfold jW at h;split at h
 ·cases h
 rename_i y hy;have nd:(∀d,y≠ .dfr d)->o.semAt (Wr r').round a.eval=execOp a.eval o:=λ hd=>Oper.semAt_eq _ _ _ λ c e=>by
  obtain⟨d,Ws⟩:=Jw e hy;exact hd d Ws
 split at h
 ·rename_i v H1 n1;cases h;refine⟨λ v H' n' e=>by cases e;exact wD hy,λ Xk next Q hk=>⟨hA,?_⟩⟩;obtain⟨ν',v',w',q,h1,h2,h3,h4,h5,h6⟩:=mh iF hH hy (λ v H' n' e=>by cases e;exact Xk);rw[nd (λ d e=>by cases e),h1];rcases h2 with rfl|⟨rfl,rfl⟩
  ·rw[Oper.uponIn_value];exact hk _ _ _ h3 h4 h5 h6
  ·rw[Oper.uponIn_skip];exact hk _ _ _ h3 h4 h5 h6
 ·rename_i f args;split at h
  ·rename_i v H1 n1 hc;cases h;obtain⟨hle,Vz⟩:=By _ _ hc;refine⟨λ v H' n' e=>by cases e;exact hle,λ Xk next Q hk=>⟨hA,?_⟩⟩;obtain⟨q_,h1,h2⟩:=mh iF hH hy (λ v H' n' e=>by cases e);rw[nd (λ d e=>by cases e),h1,Oper.uponIn_enter];refine⟨λ h=>(by cases h),?_⟩;refine jJ ((Vz ν F w q_ hg Xk hH h2).mono ?_);rintro e w2 ⟨ν',v',rfl,k1,k2,k3,k4⟩;exact hk _ _ _ k1 k2 k3 k4
  ·cases h
 ·rename_i l args;split at h
  case h_2=>cases h
  rename_i st pend T2 N' ps as bo d hb;split at h
  case h_2=>cases h
  rename_i L_ iN;split at h
  case h_2=>cases h
  rename_i v H1 n1 hc;cases h;obtain⟨hle,Vz⟩:=By _ _ hc;refine⟨λ v H' n' e=>by cases e;exact hle,λ Xk next Q hk=>⟨hA,?_⟩⟩;obtain⟨b,K,q_,hν,h1,h2⟩:=mh iF hH hy (λ v H' n' e=>by cases e);obtain⟨lp,g1,g2,g3,g4,g5,g6,g7,g8⟩:=hH.loop hb hν;have hlen:q_.length=lp.params.size:=by
   rw[g5,h1.length];rw[dU] at L_;exact abd L_
  rw[nd (λ d e=>by cases e),h2,FP g1 hlen,Oper.uponIn_round];refine⟨λ h=>(by cases h),?_⟩;rw[g6,g7,g5];refine(Vz ν F w b K _ lp.fn r' hg hν (u9 h1 g4 iN) Xk hH).mono ?_;rintro e w2 ⟨ν',v',rfl,k1,k2,k3,k4⟩;exact hk _ _ _ k1 k2 k3 k4
 ·rename_i d;split at h
  ·cases h;cases hr;refine⟨λ v H' n' e=>(by cases e),rfl,λ next Q hk=>⟨hA,?_⟩⟩;obtain⟨d',h1,h2⟩:=mh iF hH hy (λ v H' n' e=>by cases e);have:o.semAt (Wr none).round a.eval=execOp a.eval o:=rfl;rw[this,h1,Oper.uponIn_defer];exact hk _ h2
  ·cases h
 ·cases h
theorem j6{ops:Array Oper}{b:Bool}(hT:TRel ν N T a.tmps)(h:eD ops o T=some b):Region.wanted o (yielded ops a.tmps)=b:=by
 unfold eD at h;unfold Region.wanted;split at h
 ·rename_i hg;rw[hg];cases h;rfl
 ·rename_i j want hg;rw[hg];simp only;split at h
  case h_2=>cases h
  rename_i d hd;have hy:yielded ops a.tmps j=match a.tmps[d]? with|some (.bool b)=>some b|_=>none:=by
   unfold yielded;rw[hd];rfl
  have hv:(d<N/\∃v',a.tmps[d]?=some v'/\VRi ν (cK T d) v')\/(a.tmps[d]?=none/\cK T d=undef):=by
   rcases aa9 d N with h1|h1
   ·exact .inl ⟨h1,hT.get d h1⟩
   ·exact .inr ⟨ac6 (by rw[hT.size];exact h1),hT.out d h1⟩
  rw[hy];split at h
  ·rename_i b' hb;cases h;rcases hv with ⟨-,v',e1,e2⟩|⟨e1,e2⟩
   ·rw[hb] at e2;rw[e2.plain_eq rfl] at e1;rw[e1];simp
   ·rw[hb] at e2;cases e2
  ·rename_i vs hb;cases h;rcases hv with ⟨-,v',e1,e2⟩|⟨e1,e2⟩
   ·rw[hb] at e2;rw[e1];cases e2 with
    |atom _ h=>simp[cq] at h
    |tuple _ _=>rfl
   ·rw[e1];rfl
  ·cases h
theorem SR.op{s:St}(h:SR ν G N s F a w):∀l,i9 o.op=some l->tL G l=true->OK ν s.T a l:=λ l _ hk=>
 (FE.mk h.t h.g).ok hk
theorem oB(By:kD P G ih){ops:Array Oper}:∀ (rest:List Oper) (s s':St),mN P G ih r N ops rest s=some s'->s.n<=s'.n/\∀ν F a w r' (Q:Exit->Act->World->Prop),RR ν r r'->SR ν G N s F a w->Fr ν s.n s'.n->
  (∀ν' a' w',Ext ν ν' s.n s'.n->SR ν' G N s' F a' w'->Below 0 w w'->Q .normal a' w')->wpListIn (Wr r') 0 P ops Q rest a w
 | [],s,s',h=>by
  rw[mN] at h;cases h;exact⟨aaI _,λ ν F a w r' Q hr hs hf hk=>hk ν a w (.refl _ _) hs (jt _ _)⟩
 |o::rest,s,s',h=>by
  rw[mN] at h;split at h
  ·cases h
  ·rename_i hw;split at h
   case h_2=>cases h
   rename_i T1 hp;obtain⟨h1,h2⟩:=oB By rest _ _ h;refine⟨h1,λ ν F a w r' Q hr hs hf hk=>?_⟩;rw[wpListIn,if_neg (by rw[j6 hs.t hw];simp)];refine⟨λ _ _=>trivial,?_⟩;exact h2 ν F _ w r' Q hr ⟨hs.g,hs.t.put aau hp,by rw[fJ];exact hs.d,hs.h⟩ hf hk
  ·rename_i hw;split at h
   ·cases h
   ·rename_i v H1 n1 n_;split at h
    case h_2=>cases h
    rename_i T1 hp;obtain⟨h1,h2⟩:=oB By rest _ _ h;simp only at h1 h2;have hle:s.n<=n1:=by
     clear h2;unfold jW at n_;split at n_
     ·cases n_
     rename_i y hy;split at n_
     ·cases n_;exact wD hy
     ·split at n_
      ·rename_i hc;cases n_;exact(By _ _ hc).1
      ·cases n_
     ·split at n_
      case h_2=>cases n_
      split at n_
      case h_2=>cases n_
      split at n_
      ·rename_i hc;cases n_;exact(By _ _ hc).1
      ·cases n_
     ·split at n_ <;> cases n_
     ·cases n_
    refine⟨by omega,λ ν F a w r' Q hr hs hf hk=>?_⟩;rw[wpListIn,if_pos (j6 hs.t hw)];obtain⟨-,h4⟩:=wE By hs.g hr hs.op hs.h n_;refine h4 (λ i hi1 hi2=>hf i hi1 (by omega)) _ _ (λ ν' v' w' k1 k2 k3 k4=>?_);have No:=k2.sub (λ i hi1 hi2=>hf i hi1 (by omega));exact h2 ν' F _ w' r' Q (hr.mono No) ⟨hs.g.mono No,(hs.t.mono No).put k1 hp,by rw[fJ];exact hs.d.mono No,k3⟩ (k2.fr hf h1) (λ ν2 a2 w2 q1 q2 q3=>hk ν2 a2 w2 (k2.trans q1) q2 (k4.trans q3))
   ·rename_i d n_;split at h
    case h_2=>cases h
    rename_i T1 hp;obtain⟨h1,h2⟩:=oB By rest _ _ h;refine⟨h1,λ ν F a w r' Q hr hs hf hk=>?_⟩;rw[wpListIn,if_pos (j6 hs.t hw)];obtain⟨-,h3,h4⟩:=wE By hs.g hr hs.op hs.h n_;refine h4 _ _ (λ d' Ws=>?_);exact h2 ν F _ w r' Q hr ⟨hs.g,TRel.put (a:={ a with defers:=d'::a.defers }) hs.t aau hp,by rw[fJ];exact .cons Ws hs.d,hs.h⟩ hf hk
end ops
end Go.Proofs.YtjokannbjmndfaaGreatDoor
