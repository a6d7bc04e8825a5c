import Derived.Test.YtobflkidpfkcaaaGreatDoorY04
import Derived.Laws.IdiomCopy
import Derived.Laws.IdiomStrings
import Derived.Deep.MidRow
set_option maxHeartbeats 4000000
set_option maxRecDepth 100000
set_option linter.unusedSimpArgs false
set_option linter.unusedVariables false
namespace Go.Proofs.YtobflkidpfkcaaaGreatDoor
open Go.RowKit Go.Shelf
section
variable {α:Type} {e:Enc α} {P:Program} {T:TypeId} {inf:TypeInfo} {z:Value} {l:List α} {A:Option Addr} {cap:Nat} {Hl F:HL}
theorem SlIs.toRowL (h:SlIs e T l A cap Hl) (hF:∀ x ∈ Hl,x ∈ F):RowL e T F A l.length l:=by
 rcases h with ⟨rfl,rfl,rfl,rfl⟩ | ⟨b,o,full,rfl,rfl,h1,h2,h3⟩
 ·exact .zero _
 ·refine .rows b o (o+cap) full (0,0) _ l (hF _ (List.mem_singleton.2 rfl)) (by omega) rfl (λ k hk=>?_)
  have h4:((full.drop o).take l.length)[k]?=l[k]?:=by rw [h3]
  rw [List.getElem?_take,if_pos hk,List.getElem?_drop] at h4
  rw [List.getD_eq_getElem?_getD,List.getD_eq_getElem?_getD,h4]
theorem SlIs.one {x:α} {b:Nat}:SlIs e T [x] (some ⟨b,0,none⟩) 1 [(b,.rows e.w 1 (bn e [x]) T (0,0))]:=.inr ⟨b,0,[x],by simp,by simp,rfl,Nat.le_refl _,rfl⟩
end
section
variable {r:Option Nat} {P:Program} {N:Nat} {D:List Deferred} {F:HL} {w0:World} {R:HL} {s:Cfg} {Q:Exit -> Act -> World -> Prop} {hards:List Nat} {Rd:HL}
def btC (i:Nat) (s:Cfg):Cfg:=match s with
 | ⟨c,k,L,A,Ts⟩=>⟨c,k,L,(oth [i] A.length).filterMap (A[·]?),[i].filterMap (A[·]?) :: Ts⟩
theorem zL {A:HL} {Ts:List HL} {i:Nat} (h:([i]++oth [i] A.length).isPerm (List.range A.length)=true):(ap ((oth [i] A.length).filterMap (A[·]?)) ([i].filterMap (A[·]?) :: Ts)).Perm (ap A Ts):=by
 have hp:=fq A [i] (oth [i] A.length) h
 show ((oth [i] A.length).filterMap (A[·]?)++([i].filterMap (A[·]?) :: Ts).flatten).Perm (A++Ts.flatten)
 rw [List.flatten_cons,<- List.append_assoc]
 exact (List.perm_append_comm.trans hp).append_right _
theorem si (i:Nat) (hk:RN r P N D F w0 R (btC i s) Q) (h:([i]++oth [i] s.A.length).isPerm (List.range s.A.length)=true:=by kernel_rfl):RN r P N D F w0 R s Q:=by
 obtain ⟨c,k,L,A,Ts⟩:=s
 exact ⟨λ hR a w h1 h2 h3=>hk.h hR a w h1 (h2.perm ((zL h).append_right F)) h3⟩
theorem Mv (i:Nat) (hk:RD r P N D F w0 R hards Rd (btC i s) Q) (h:([i]++oth [i] s.A.length).isPerm (List.range s.A.length)=true:=by kernel_rfl):RD r P N D F w0 R hards Rd s Q:=by
 obtain ⟨c,k,L,A,Ts⟩:=s
 refine ⟨λ hR hs=>?_⟩
 have h1:=hk.h hR hs
 intro hcl a hF
 exact JJ.perm _ _ _ _ _ (zL h) (h1 hcl a hF)
theorem lO (t:Nat) {u v:Value} (e:u=v) (hk:RD r P N D F w0 R hards Rd (svC t v s) Q) (h:s.L.lookup t=some u:=by kernel_rfl):RD r P N D F w0 R hards Rd s Q:=by
 subst e
 exact ⟨λ hR hs hcl a hF=>hk.h hR hs hcl a (hF.fix h)⟩
variable {α:Type} {e:Enc α} {T:TypeId} {inf:TypeInfo} {z:Value}
theorem RN.appU (ok:EncOk e P T inf z) (l src:List α) (j:Nat) {A:Option Addr} {n cap:Nat} {Hl:HL} {B:Option Addr} {m c':Nat} {tx:TypeId} (hn:n=l.length) (hsl:SlIs e T l A cap Hl) (hb:l.length+src.length <= 100000000)
  (hs:SrcIn P e (ap s.A s.Ts++F) B m src)
  (hk:∀ (A':Option Addr) (cap':Nat) (Hl':HL),(SlIs e T (l++src) A' cap' Hl' /\ (cq A -> cq A')) -> RN r P N D F w0 R (L5 j Hl' (fl N (.slice A' (n+src.length) cap') s)) Q)
  (h:uZ P N j (pi s) s=some (A,n,cap,T,B,m,c',tx,Hl):=by kernel_rfl):RN r P N D F w0 R s Q:=by
 obtain ⟨o,a1,a2,t,e',q0,q1,q2,q3,q4,q5,q6,q7,q9,q10,q11⟩:=mj h
 refine ⟨λ hR a w hF hRel hB=>?_⟩
 obtain ⟨c,k,L,Bs,Ts⟩:=s
 unfold pi at q0
 cases c with
 | code c=>cases q0
 | ex c=>cases q0
 | drw _ _=>cases q0
 | ops ops i =>
  simp only at q0 q3 q4 q5 q9 q10 q11 hF hRel
  have hdrop:ops.toList.drop i=o :: ops.toList.drop (i+1):=by
   have hlt:i < ops.toList.length:=(List.getElem?_eq_some_iff.1 q0).1
   rw [List.drop_eq_getElem_cons hlt,(List.getElem?_eq_some_iff.1 q0).2]
  show wpListIn _ _ _ _ _ _ _ _
  rw [hdrop,wpListIn,if_pos (by simp [Region.wanted,q1])]
  refine ⟨λ _ _=>trivial,?_⟩
  have hperm:=gY (A:=Bs) q9 q10
  refine fR (by rw [q2];intro c hc;cases hc) (lc (x:=.slice B m c') (src:=src) (G:=Bs++((oth [j] Ts.length).filterMap (Ts[·]?)).flatten) ok q2 q6 q3 q4 hn q5 hperm hsl (λ w hw=>by have h5:=hs.2 c' q7 [] w hw;rwa [<- ok.size] at h5) hb a hF w hRel) ?_
  rintro u w' ⟨⟨A',cap',Hl'⟩,⟨rfl,hsl'⟩,hR',hB'⟩
  obtain ⟨L',p1⟩:=dY q11 (.slice A' (n+src.length) cap')
  have hh:=(hk A' cap' Hl' hsl').h hR
  have hpc:fl N (.slice A' (n+src.length) cap') ⟨.ops ops i,k,L,Bs,Ts⟩=⟨.ops ops (i+1),k,L',Bs,Ts⟩:=by
   unfold fl
   simp only [q0,p1]
  rw [hpc] at hh
  refine hh _ w' (hF.put p1) (hR'.perm (List.Perm.append_right F ?_)) (hB.trans hB')
  show (Bs++(Hl' :: (oth [j] Ts.length).filterMap (Ts[·]?)).flatten).Perm _
  rw [List.flatten_cons,<- List.append_assoc,<- List.append_assoc]
  exact List.Perm.append_right _ List.perm_append_comm
theorem RDO.appU {i:Nat} (ix:List Nat) (ok:EncOk e P T inf z) (l src:List α) (j:Nat) {A:Option Addr} {n cap:Nat} {Hl:HL} {B:Option Addr} {m c':Nat} {tx:TypeId} (hn:n=l.length) (hsl:SlIs e T l A cap Hl) (hb:l.length+src.length <= 100000000)
  (hs:SrcIn P e (ap s.A s.Ts++F) B m src)
  (hk:∀ (A':Option Addr) (cap':Nat) (Hl':HL),(SlIs e T (l++src) A' cap' Hl' /\ (cq A -> cq A')) -> RD r P N D F w0 R hards Rd (L5 j Hl' (xO N i (.slice A' (n+src.length) cap') s)) Q)
  (h:uZ P N j (sf i s) s=some (A,n,cap,T,B,m,c',tx,Hl):=by kernel_rfl) (hx:(hards.contains i,uQ ix s)=(true,Rd):=by kernel_rfl):RDO r P N D F w0 R hards Rd i s Q:=by
 obtain ⟨o,a1,a2,t,e',q0,q1,q2,q3,q4,q5,q6,q7,q9,q10,q11⟩:=mj h
 obtain ⟨c,k,L,Bs,Ts⟩:=s
 unfold sf at q0
 simp only [Prod.mk.injEq] at hx
 cases c with
 | code c=>cases q0
 | ex c=>cases q0
 | ops _ _=>cases q0
 | drw ops li =>
  refine ⟨λ hR=>?_⟩
  simp only at q0 q3 q4 q5 q9 q10 q11
  have hperm:=gY (A:=Bs) q9 q10
  have hpc:∀ v L',eS N o.dst v L=some L' -> xO N i v ⟨.drw ops li,k,L,Bs,Ts⟩=⟨.drw ops (br li i true),k,L',Bs,Ts⟩:=by
   intro v L' hl
   unfold xO
   simp only [q0,hl]
  refine (pZ (Q:=Q) (by simpa using q0) (σ:=Option Addr × Nat × HL) (λ u y=>u=.slice y.1 (n+src.length) y.2.1 /\ (SlIs e T (l++src) y.1 y.2.1 y.2.2 /\ (cq A -> cq y.1))) (λ y=>ap Bs (y.2.2 :: (oth [j] Ts.length).filterMap (Ts[·]?))) q11 (λ a hF=>⟨by simp [Region.wanted,q1],λ w hRel hB=>?_⟩) (λ y=>⟨λ hi=>?_,λ hi x hm=>List.mem_append_left _ (pW ix hx.2 x hm)⟩) ?_:RDO r P N D F w0 R hards Rd i ⟨.drw ops li,k,L,Bs,Ts⟩ Q).h hR
  ·refine d8 (lc (x:=.slice B m c') (src:=src) (G:=Bs++((oth [j] Ts.length).filterMap (Ts[·]?)).flatten) ok q2 q6 q3 q4 hn q5 hperm hsl (λ w hw=>by have h5:=hs.2 c' q7 [] w hw;rwa [<- ok.size] at h5) hb a hF w hRel) ?_
   rintro u w' ⟨y,h3,hR',hB'⟩
   refine ⟨y,h3,hR'.perm (List.Perm.append_right F ?_),hB'⟩
   show (Bs++(y.2.2 :: (oth [j] Ts.length).filterMap (Ts[·]?)).flatten).Perm _
   rw [List.flatten_cons,<- List.append_assoc,<- List.append_assoc]
   exact List.Perm.append_right _ List.perm_append_comm
  ·exact absurd (List.contains_iff_mem.1 hx.1) hi
  ·rintro u ⟨A',cap',Hl'⟩ ⟨rfl,h3⟩ L' hl hs
   have h1:=(hk A' cap' Hl' h3).h hR
   rw [hpc _ L' hl] at h1
   exact h1 hs
end
theorem xT {cs vs:List Value} (h:cs.length=vs.length):je cs 0 vs=vs:=by
 apply List.ext_getElem?
 intro j
 rw [mh vs cs 0 (by omega) j]
 split
 ·rfl
 ·next h1=>rw [List.getElem?_eq_none (by omega),List.getElem?_eq_none (by omega)]
theorem m0 {b:Nat} {ty:TypeId} {fz:Nat × Nat}:∀ (vs:List Value) (o:Nat) (W:World) (cs:List Value),W.heap[b]?=some (Blk.lit cs ty fz).den -> (W.setCells b o vs).heap[b]?=some (Blk.lit (je cs o vs) ty fz).den
 | [],o,W,cs,h=>h
 | v :: r,o,W,cs,h=>by
  rw [World.setCells,je]
  have h1:=oJ (v:=v) (a:=⟨b,o,none⟩) rfl rfl h
  rw [ig] at h1
  exact m0 r (o+1) _ _ h1
theorem m5 {b k:Nat} (hk:k ≠ b):∀ (vs:List Value) (o:Nat) (W:World),(W.setCells b o vs).heap[k]?=W.heap[k]?
 | [],_,_=>rfl
 | v :: r,o,W=>by
  rw [World.setCells,m5 hk r (o+1)]
  exact Below.heap_setCell _ _ _ _ hk
def Kr (P:Program) (o:Oper) (L:FL):Option (Addr × Nat × Nat × Addr × Nat × Nat × TypeId × TypeId × TypeId):=match o.guard,o.op with
 | none,.call c=>match c.callee,c.args.toList,c.argTypes.toList with
  | .builtin .copy,[a1,a2],[t,tx]=>match lM L a1 && lM L a2,iT L a1,iT L a2 with
   | true,.slice (some d) n cap,.slice (some a) m c'=>match P.underlying t with
    | some (.slice T)=>some (d,n,cap,a,m,c',T,t,tx)
    | _=>none
   | _,_,_=>none
  | _,_,_=>none
 | _,_=>none
section
variable {r:Option Nat} {P:Program} {N:Nat} {D:List Deferred} {F:HL} {w0:World} {R:HL} {s:Cfg} {Q:Exit -> Act -> World -> Prop}
theorem BE {o:Oper} {L:FL} {d:Addr} {n cap:Nat} {a:Addr} {m c':Nat} {T t tx:TypeId} (h:Kr P o L=some (d,n,cap,a,m,c',T,t,tx)) :
  ∃ a1 a2,o.guard=none /\ o.op=.call { callee:=.builtin .copy,args:=#[a1,a2],argTypes:=#[t,tx] } /\ (lM L a1 && lM L a2)=true /\ iT L a1=.slice (some d) n cap /\ iT L a2=.slice (some a) m c' /\ P.underlying t=some (.slice T):=by
 unfold Kr at h
 split at h
 case h_2=>cases h
 rename_i c hg hop
 split at h
 case h_2=>cases h
 rename_i a1 a2 t' tx' h1 h2 h3
 split at h
 case h_2=>cases h
 rename_i d' n' cap' a' m' c2 h4 h5 h6
 split at h
 case h_2=>cases h
 rename_i T' h7
 simp only [Option.some.injEq,Prod.mk.injEq] at h
 obtain ⟨e1,e2,e3,e4,e5,e6,e7,e8,e9⟩:=h
 subst e1;subst e2;subst e3;subst e4;subst e5;subst e6;subst e7;subst e8;subst e9
 refine ⟨a1,a2,hg,?_,h4,h5,h6,h7⟩
 obtain ⟨cal,args,ats⟩:=c
 simp only at h1 h2 h3
 subst h1
 have e1:args=#[a1,a2]:=by cases args;simp_all
 have e2:ats=#[t',tx']:=by cases ats;simp_all
 rw [hop,e1,e2]
def Mw (P:Program) (N i:Nat) (oo:Option Oper) (s:Cfg):Option (Addr × Nat × Nat × Addr × Nat × Nat × TypeId × TypeId × TypeId × (Nat × Blk)):=match oo with
 | some o=>match Kr P o s.L,s.A[i]?,(eS N o.dst undef s.L).isSome with
  | some (d,n,cap,a,m,c',T,t,tx),some x,true=>some (d,n,cap,a,m,c',T,t,tx,x)
  | _,_,_=>none
 | none=>none
theorem RN.cpy (i:Nat) (X:Blk) {b n cap m c':Nat} {a:Addr} {T t tx ty:TypeId} {g:Nat -> Nat -> Value} (vs:List Value) (hl:vs.length=n) (hm:m=n) (h1:∀ v ∈ vs,v.oneCell'=true) (hsz:(P.info? T).map (·.size)=some 1)
  (hs:∀ w,Rel (ap s.A s.Ts++F) w -> ∀ j v,vs[j]?=some v -> w.cell? (a.add j)=some v)
  (hX:X.den=(Blk.lit vs ty (0,0)).den) (hk:RN r P N D F w0 R (Mm i X (fl N (vI (n:Int)) s)) Q)
  (h:Mw P N i (pi s) s=some (⟨b,0,none⟩,n,cap,a,m,c',T,t,tx,(b,.rows 1 n g ty (0,0))):=by kernel_rfl):RN r P N D F w0 R s Q:=by
 unfold Mw at h
 split at h
 case h_2=>cases h
 rename_i o q0
 split at h
 case h_2=>cases h
 rename_i d' n' cap' a' m' c2 T' t' tx' x hv hx hp
 simp only [Option.some.injEq,Prod.mk.injEq] at h
 obtain ⟨e1,e2,e3,e4,e5,e6,e7,e8,e9,e10⟩:=h
 subst e1;subst e2;subst e3;subst e4;subst e5;subst e6;subst e7;subst e8;subst e9;subst e10
 obtain ⟨a1,a2,q1,q2,q3,q4,q5,q6⟩:=BE hv
 refine ⟨λ hR aa w hF hRel hB=>?_⟩
 obtain ⟨c,k,L,Bs,Ts⟩:=s
 unfold pi at q0
 cases c with
 | code c=>cases q0
 | ex c=>cases q0
 | drw _ _=>cases q0
 | ops ops pc =>
  simp only at q0 q3 q4 q5 hx hp hF hRel hs
  have hdrop:ops.toList.drop pc=o :: ops.toList.drop (pc+1):=by
   have hlt:pc < ops.toList.length:=(List.getElem?_eq_some_iff.1 q0).1
   rw [List.drop_eq_getElem_cons hlt,(List.getElem?_eq_some_iff.1 q0).2]
  show wpListIn _ _ _ _ _ _ _ _
  rw [hdrop,wpListIn,if_pos (by simp [Region.wanted,q1])]
  refine ⟨λ _ _=>trivial,?_⟩
  subst hm
  have hx2:(ap Bs Ts)[i]?=some (b,Blk.rows 1 m' g ty (0,0)):=by
   show (Bs++Ts.flatten)[i]?=_
   rw [List.getElem?_append_left (List.getElem?_eq_some_iff.1 hx).1];exact hx
  have hblk:w.heap[b]?=some (Blk.lit (bB 1 g m') ty (0,0)).den:=hRel.holds (b,.rows 1 m' g ty (0,0)) (List.mem_append_left _ (List.mem_of_getElem? hx2))
  have hrl:(bB 1 g m').length=m':=by rw [cO];omega
  have key:d7 P o aa w λ u w'=>u=vI (m':Int) /\ Rel (br (ap Bs Ts) i (b,X)++F) w' /\ Below 0 w w':=by
   simp only [Bool.and_eq_true] at q3
   have e1:=(hF.eval q3.1).trans q4
   have e2:=(hF.eval q3.2).trans q5
   have hrun:=run_copy_cells (P:=P) w t' tx' o.type T' b 0 m' cap' a' m' c2 vs q6 hsz (by simp [hl]) (hs w hRel) (λ j hj=>by
     have hj2:j < (bB 1 g m').length:=by omega
     rw [Nat.zero_add,mO (v:=(bB 1 g m')[j]) hblk rfl rfl (by simp [hj2])];rfl) (λ j hj=>nI hblk rfl rfl) h1
   unfold d7
   have he:(execOp aa.eval o).run P w=.ok (.value (vI (m':Int))) (w.setCells b 0 vs):=by
    simp [execOp,q2,resolve,invoke,builtin,Sem.run_bind,e1,e2,hrun,goInt,hl]
   rw [he]
   refine ⟨rfl,?_,il b vs 0 w⟩
   have hd:=m0 vs 0 w _ hblk
   rw [xT (by omega),<- hX] at hd
   exact hRel.upd hx2 hd (λ k hk=>m5 hk vs 0 w)
  refine fR (by rw [q2];intro c hc;cases hc) key ?_
  rintro u w' ⟨rfl,hR',hB'⟩
  obtain ⟨L',p1⟩:=dY hp (vI (m':Int))
  have hh:=hk.h hR
  have hpc:Mm i X (fl N (vI (m':Int)) ⟨.ops ops pc,k,L,Bs,Ts⟩)=⟨.ops ops (pc+1),k,L',br Bs i (b,X),Ts⟩:=by
   unfold fl
   simp only [q0,p1]
   unfold Mm
   simp only [hx]
  rw [hpc] at hh
  refine hh _ w' (hF.put p1) ?_ (hB.trans hB')
  have e3:br (ap Bs Ts) i (b,X)=ap (br Bs i (b,X)) Ts:=by
   show br (Bs++Ts.flatten) i _=br Bs i _++Ts.flatten
   rw [ig,ig,List.set_append_left _ _ (List.getElem?_eq_some_iff.1 hx).1]
  rw [<- e3]
  exact hR'
end
section
variable {r:Option Nat} {P:Program} {N:Nat} {D:List Deferred} {F:HL} {w0:World} {R:HL} {s:Cfg} {Q:Exit -> Act -> World -> Prop}
end
section
variable {α:Type} {e:Enc α} {T:TypeId} {F:HL} {A:Option Addr} {n cap:Nat} {xs:List α} {Hl:HL}
end
section
variable {r:Option Nat} {P:Program} {N:Nat} {D:List Deferred} {F:HL} {w0:World} {R:HL} {s:Cfg} {Q:Exit -> Act -> World -> Prop}
end
def HU (P:Program) (t:TypeId) (n:Nat):Bool:=match P.underlying t,P.info? t with
 | some d,some i=>(match d with | .struct _ | .array _ _=>true | _=>false) && i.size == n
 | _,_=>false
theorem BF {P:Program} {t:TypeId} {n:Nat} (h:HU P t n=true):∃ d,P.underlying t=some d /\ d.isRow=true /\ (P.info? t).map (·.size)=some n:=by
 unfold HU at h
 split at h
 case h_2=>cases h
 rename_i d i hd hi
 rw [Bool.and_eq_true,beq_iff_eq] at h
 exact ⟨d,hd,h.1,by rw [hi];exact congrArg some h.2⟩
def N1 (P:Program) (n:Nat) (o:Oper) (L:FL):Option (Nat × Nat):=match o.guard,o.op with
 | none,.load t x=>match lM L x && HU P t n,iT L x with
  | true,.pointer (some a)=>match a.spot with
   | none=>some (a.block,a.off)
   | _=>none
  | _,_=>none
 | _,_=>none
theorem p5 {P:Program} {n:Nat} {o:Oper} {L:FL} {b q:Nat} (h:N1 P n o L=some (b,q)) :
  ∃ t x,o.guard=none /\ o.op=.load t x /\ lM L x=true /\ HU P t n=true /\ iT L x=.pointer (some ⟨b,q,none⟩):=by
 unfold N1 at h
 split at h
 case h_2=>cases h
 rename_i t x hg hop
 split at h
 case h_2=>cases h
 rename_i a h1 h2
 split at h
 case h_2=>cases h
 rename_i hs
 simp only [Option.some.injEq,Prod.mk.injEq] at h
 obtain ⟨e1,e2⟩:=h
 rw [Bool.and_eq_true] at h1
 obtain ⟨ab,ao,as_⟩:=a
 dsimp only at hs e1 e2
 subst hs;subst e1;subst e2
 exact ⟨t,x,hg,hop,h1.1,h1.2,h2⟩
def N3 (P:Program) (N n:Nat) (oo:Option Oper) (s:Cfg):Option (Nat × Nat):=match oo with
 | some o=>match N1 P n o s.L,(eS N o.dst undef s.L).isSome with
  | some x,true=>some x
  | _,_=>none
 | none=>none
def ldD (P:Program) (N n:Nat) (hards:List Nat) (i:Nat) (s:Cfg):Option (Nat × Nat × Nat):=match N3 P N n (sf i s) s,L2 (lH s).toList (fG s) i with
 | some (b,q),true=>some (b,q,eC (br (fG s) i true)+1)
 | _,_=>none
section
variable {r:Option Nat} {P:Program} {N:Nat} {D:List Deferred} {F:HL} {w0:World} {R:HL} {s:Cfg} {Q:Exit -> Act -> World -> Prop} {hards:List Nat} {Rd:HL}
theorem D2 {o:Oper} {L:FL} {b q:Nat} {vs:List Value} (h:N1 P vs.length o L=some (b,q)) {a:Act} (hF:Fm N D L a) {w:World} (hs:w.rangeAt b q vs):d7 P o a w λ u w'=>u=.agg vs.toArray /\ w'=w:=by
 obtain ⟨t,x,q1,q2,q3,q4,q5⟩:=p5 h
 obtain ⟨d,d1,d2,d3⟩:=BF q4
 have e1:=(hF.eval q3).trans q5
 have hrun:=run_loadAt_mid (P:=P) w b q t vs d hs d1 d2 d3
 have he:(execOp a.eval o).run P w=.ok (.value (.agg vs.toArray)) w:=by
  simp only [execOp,q2,e1,hrun,Sem.run_bind,Result.andThen]
  rfl
 unfold d7
 rw [he]
 exact ⟨rfl,rfl⟩
theorem D3 (vs:List Value) {b q:Nat} (hs:∀ w,zx w F -> w.rangeAt b q vs) (hk:RN r P N D F w0 R (fl N (.agg vs.toArray) s) Q) (h:N3 P N vs.length (pi s) s=some (b,q):=by kernel_rfl):RN r P N D F w0 R s Q:=by
 unfold N3 at h
 split at h
 case h_2=>cases h
 rename_i o q0
 split at h
 case h_2=>cases h
 rename_i y hv hp
 simp only [Option.some.injEq] at h
 subst h
 refine ⟨λ hR aa w hF hRel hB=>?_⟩
 obtain ⟨c,k,L,Bs,Ts⟩:=s
 unfold pi at q0
 cases c with
 | code c=>cases q0
 | ex c=>cases q0
 | drw _ _=>cases q0
 | ops ops pc =>
  simp only at q0 hv hp hF hRel
  obtain ⟨t,x,q1,q2,q3,q4,q5⟩:=p5 hv
  have hdrop:ops.toList.drop pc=o :: ops.toList.drop (pc+1):=by
   have hlt:pc < ops.toList.length:=(List.getElem?_eq_some_iff.1 q0).1
   rw [List.drop_eq_getElem_cons hlt,(List.getElem?_eq_some_iff.1 q0).2]
  show wpListIn _ _ _ _ _ _ _ _
  rw [hdrop,wpListIn,if_pos (by simp [Region.wanted,q1])]
  refine ⟨λ _ _=>trivial,?_⟩
  refine fR (by rw [q2];intro c hc;cases hc) (D2 hv hF (hs w λ x hx=>hRel.holds x (List.mem_append_right _ hx))) ?_
  rintro u w' ⟨rfl,rfl⟩
  obtain ⟨L',p1⟩:=dY hp (.agg vs.toArray)
  have hh:=hk.h hR
  have hpc:fl N (.agg vs.toArray) ⟨.ops ops pc,k,L,Bs,Ts⟩=⟨.ops ops (pc+1),k,L',Bs,Ts⟩:=by
   unfold fl
   simp only [q0,p1]
  rw [hpc] at hh
  exact hh _ _ (hF.put p1) hRel hB
theorem D4 (i:Nat) (vs:List Value) {b q:Nat} (hs:∀ w,zx w F -> w.rangeAt b q vs) (hk:RD r P N D F w0 R hards Rd (xO N i (.agg vs.toArray) s) Q) (ix:List Nat)
  (h:ldD P N vs.length hards i s=some (b,q,eC (fG s)):=by kernel_rfl) (hix:uQ ix s=Rd:=by kernel_rfl):RD r P N D F w0 R hards Rd s Q:=by
 unfold ldD at h
 split at h
 case h_2=>cases h
 rename_i b' q' hl hok
 simp only [Option.some.injEq,Prod.mk.injEq] at h
 obtain ⟨e1,e2,e5⟩:=h
 subst e1;subst e2
 unfold N3 at hl
 split at hl
 case h_2=>cases hl
 rename_i o q0
 split at hl
 case h_2=>cases hl
 rename_i y hv hp
 simp only [Option.some.injEq] at hl
 subst hl
 refine ⟨λ hR hsel=>?_⟩
 obtain ⟨c,k,L,A,Ts⟩:=s
 unfold sf at q0
 cases c with
 | code c=>cases q0
 | ex c=>cases q0
 | ops _ _=>cases q0
 | drw ops l =>
  simp only [lH,fG] at q0 hv hp hsel hok e5 ⊢
  obtain ⟨t,x,q1,q2,q3,q4,q5⟩:=p5 hv
  obtain ⟨L',hl⟩:=dY hp (.agg vs.toArray)
  have hpc:xO N i (.agg vs.toArray) ⟨.drw ops l,k,L,A,Ts⟩=⟨.drw ops (br l i true),k,L',A,Ts⟩:=by
   unfold xO
   simp only [q0,hl]
  rw [hpc] at hk
  rw [<- e5]
  have hvo:∀ a,Fm N D L a -> ∀ H':HL,VO P ops F w0 o (.agg vs.toArray) a H':=λ a hF H'=>.inl ⟨by simp [Region.wanted,q1],λ X w hRel hB=>d8 (D2 hv hF (hs w λ x hx=>hRel.holds x (List.mem_append_right _ (List.mem_append_right _ hx)))) λ u w' h=>by
   obtain ⟨rfl,rfl⟩:=h
   exact ⟨rfl,hRel,hB⟩⟩
  exact uL (v:=.agg vs.toArray) (L1:=L') hsel hok (by simpa using q0) (λ a hF=>hF.put hl) (λ a hF=>hvo a hF _) (λ x hx=>List.mem_append_left _ (pW ix hix x hx)) (.inr λ a hF H' _=>hvo a hF H') (hk.h hR hsel)
end
structure Bod where (sh:Shp) (mot:Mot) (a b:Int)
abbrev dB:Bod:=⟨⟨0,[],none,0⟩,⟨0,0,0,0,0⟩,0,0⟩
def kx:Enc Bod:=⟨9,λ p k=>match k with | 0=>vI p.sh.r | 1=>.slice p.sh.A p.sh.poly.length p.sh.cap | 2=>vI p.mot.px | 3=>vI p.mot.py | 4=>vI p.mot.vx | 5=>vI p.mot.vy | 6=>vI p.mot.inv | 7=>vI p.a | _=>vI p.b,dB⟩
noncomputable def JL:TypeInfo:=match Tryz.prog.info? 62 with | some i=>i | none=>⟨.bool,"",0,0,false,0,0,none,false,#[]⟩
noncomputable def JM:Value:=match JL.zero with | some z=>z | none=>.bool false
theorem tQ:EncOk kx Tryz.prog 62 JL JM where
 info:=by kernel_rfl
 zero:=by kernel_rfl
 size:=by kernel_rfl
 zsize:=by kernel_rfl
 zcell:=λ k hk=>by
  have h:∀ k < 9,JM.cells[k]?=some (kx.cell kx.dflt k):=by intro k hk;(iterate 9 (rcases k with _ | k;· kernel_rfl));omega
  exact h k hk
 one:=λ x k=>by unfold kx;dsimp only;split <;> rfl
 bytes:=Nat.le_of_ble_eq_true (by kernel_rfl)
abbrev iw (l:List Bod):Nat -> Nat -> Value:=bn kx l
structure Setup where
 players:Int
 bb:Nat
 bo:Nat
 nb:Nat
 bc:Nat
 bR:Nat
 bods:List Bod
 box:Bx
 rA:Option Addr
 rn:Nat
 rc:Nat
 dA:Option Addr
 dn:Nat
 dc:Nat
 fog:Int
 g:V2
 push:Int
 drag:Int
 rest:Int
 rounds:Int
 fuel:Int
def Setup.body (S:Setup) (k:Nat):Bod:=S.bods.getD (S.bo+k) dB
structure SetN (S:Setup):Prop where
 pl:0 <= S.players /\ S.players <= 1000000
 nb:S.nb <= 1000000
structure SetIn (F:HL) (S:Setup):Prop extends SetN S where
 blk:(S.bb,.rows 9 S.bR (iw S.bods) 62 (0,0)) ∈ F
 room:S.bo+S.nb <= S.bR
 shp:∀ k,k < S.nb -> ShIn F (S.body k).sh
theorem SetIn.up {F X:HL} {S:Setup} (h:SetIn F S):SetIn (X++F) S :=
 ⟨h.toSetN,List.mem_append_right _ h.blk,h.room,λ k hk=>(h.shp k hk).mono λ x hx=>List.mem_append_right _ hx⟩
def ah (S:Setup) (k:Int):Int:=if k < 0 then -1 else if k >= S.players then -1 else 48+4 * k
def af (S:Setup) (k:Int):Int:=if k < 0 then -1 else if k >= S.nb then -1 else 48+4 * S.players+8 * k
def sizeOf (S:Setup):Int:=48+4 * S.players+8 * S.nb
theorem gl {S:Setup} (h:SetN S) (k:Int):(-1 <= ah S k /\ ah S k <= 1000000000) /\ (ah S k < 0 \/ (0 <= k /\ k < S.players)):=by
 have:=h.pl
 unfold ah;split
 ·omega
 ·split <;> omega
theorem cH {S:Setup} (h:SetN S) (k:Int):(-1 <= af S k /\ af S k <= 1000000000) /\ (af S k < 0 \/ (0 <= k /\ k < S.nb)):=by
 have:=h.pl
 have:=h.nb
 unfold af;split
 ·omega
 ·split <;> omega
abbrev Setup.v (S:Setup):Value:=.agg #[vI S.players,vS S.bb (S.bo * 9) S.nb S.bc,vI S.box.x0,vI S.box.y0,vI S.box.x1,vI S.box.y1,.slice S.rA S.rn S.rc,.slice S.dA S.dn S.dc,vI S.fog,vI S.g.x,vI S.g.y,vI S.push,vI S.drag,vI S.rest,vI S.rounds,vI S.fuel]
abbrev Setup.l (S:Setup):List Value:=[vI S.players,vS S.bb (S.bo * 9) S.nb S.bc,vI S.box.x0,vI S.box.y0,vI S.box.x1,vI S.box.y1,.slice S.rA S.rn S.rc,.slice S.dA S.dn S.dc,vI S.fog,vI S.g.x,vI S.g.y,vI S.push,vI S.drag,vI S.rest,vI S.rounds,vI S.fuel]
theorem gm (S:Setup) (k:Int) (F:HL) (hn:SetN S):Sp Tryz.prog 177 #[(Setup.v S),vI k] [] F (λ u H'=>u=vI (ah S k) /\ H'=[]):=by
 have h1:=hn.pl
 have h2:=hn.nb
 refine Sp.run Tryz.func177 rfl mn (A:=[]) (Ts:=[]) rfl λ w0=>?_
 refine ae 12 [] λ n1=>RN.em (k < 0) 7 (λ h2=>?_) λ h2=>?_
 ·refine ae 13 [] λ _=>RN.ret [] [] [] (v:=vI (-1)) (H':=[]) ?_
  refine ⟨?_,rfl⟩
  simp only [ah,if_pos h2]
 ·refine ae 7 [.own 0] λ _=>RN.em (k >= S.players) 12 (λ h3=>?_) λ h3=>?_
  ·refine ae 6 [] λ _=>RN.ret [] [] [] (v:=vI (-1)) (H':=[]) ?_
   refine ⟨?_,rfl⟩
   simp only [ah,if_neg h2,if_pos h3]
  ·refine ai 11 [.nw,.nw] [bg (48+(4 * k)),bg (4 * k)] λ _=>RN.ret [] [] [] (v:=vI (48+(4 * k))) (H':=[]) ?_
   refine ⟨?_,rfl⟩
   simp only [ah,if_neg h2,if_neg h3]
theorem cI (S:Setup) (k:Int) (F:HL) (hn:SetN S):Sp Tryz.prog 80 #[(Setup.v S),vI k] [] F (λ u H'=>u=vI (af S k) /\ H'=[]):=by
 have h1:=hn.pl
 have h2:=hn.nb
 refine Sp.run Tryz.func80 rfl mn (A:=[]) (Ts:=[]) rfl λ w0=>?_
 refine ae 12 [] λ n1=>RN.em (k < 0) 7 (λ h2=>?_) λ h2=>?_
 ·refine ae 14 [] λ _=>RN.ret [] [] [] (v:=vI (-1)) (H':=[]) ?_
  refine ⟨?_,rfl⟩
  simp only [af,if_pos h2]
 ·refine ae 8 [.own 0] λ _=>RN.em (k >= (S.nb:Int)) 13 (λ h3=>?_) λ h3=>?_
  ·refine ae 6 [] λ _=>RN.ret [] [] [] (v:=vI (-1)) (H':=[]) ?_
   refine ⟨?_,rfl⟩
   simp only [af,if_neg h2,if_pos h3]
  ·refine ai 15 [.own 0,.nw,.nw,.nw,.nw] [bg ((48+(4 * S.players))+(8 * k)),bg (8 * k),bg (48+(4 * S.players)),bg (4 * S.players)] λ _=>RN.ret [] [] [] (v:=vI ((48+(4 * S.players))+(8 * k))) (H':=[]) ?_
   refine ⟨?_,rfl⟩
   simp only [af,if_neg h2,if_neg h3]
theorem BG (S:Setup) (F:HL) (hn:SetN S):Sp Tryz.prog 79 #[(Setup.v S)] [] F (λ u H'=>u=vI (sizeOf S) /\ H'=[]):=by
 have h1:=hn.pl
 have h2:=hn.nb
 refine Sp.run Tryz.func79 rfl mn (A:=[]) (Ts:=[]) rfl λ w0=>?_
 refine ai 20 [.own 0,.nw,.nw,.own 0,.nw,.nw] [bg ((48+(4 * S.players))+(8 * (S.nb:Int))),bg (8 * (S.nb:Int)),bg (48+(4 * S.players)),bg (4 * S.players)] λ n1=>?_
 exact RN.ret [] [] [] ⟨rfl,rfl⟩
structure Inp where (dx dy act:Int)
abbrev dI:Inp:=⟨0,0,0⟩
structure Ins where (op n:Int)
abbrev dIns:Ins:=⟨0,0⟩
structure Eff where (t i k v:Int)
abbrev bz:Eff:=⟨0,0,0,0⟩
def gC:Enc Inp:=⟨3,λ p k=>match k with | 0=>vI p.dx | 1=>vI p.dy | _=>vI p.act,dI⟩
noncomputable def JN:TypeInfo:=match Tryz.prog.info? 76 with | some i=>i | none=>⟨.bool,"",0,0,false,0,0,none,false,#[]⟩
noncomputable def JO:Value:=match JN.zero with | some z=>z | none=>.bool false
theorem p6:EncOk gC Tryz.prog 76 JN JO where
 info:=by kernel_rfl
 zero:=by kernel_rfl
 size:=by kernel_rfl
 zsize:=by kernel_rfl
 zcell:=λ k hk=>by
  have h:∀ k < 3,JO.cells[k]?=some (gC.cell gC.dflt k):=by intro k hk;(iterate 3 (rcases k with _ | k;· kernel_rfl));omega
  exact h k hk
 one:=λ x k=>by unfold gC;dsimp only;split <;> rfl
 bytes:=Nat.le_of_ble_eq_true (by kernel_rfl)
abbrev D5 (l:List Inp):Nat -> Nat -> Value:=bn gC l
def InB (F:HL) (b a n:Nat) (f:Nat -> Inp):Prop:=∀ w,zx w F -> ∀ k,k < n -> w.rangeAt b (a+k * 3) [vI (f k).dx,vI (f k).dy,vI (f k).act]
section
variable {F:HL} {b a n:Nat} {f:Nat -> Inp}
theorem InB.mono {F':HL} (h:InB F b a n f) (hs:∀ x ∈ F,x ∈ F'):InB F' b a n f:=λ w hw k hk=>h w (λ x hx=>hw x (hs x hx)) k hk
theorem InB.up {X:HL} (h:InB F b a n f):InB (X++F) b a n f:=h.mono λ x hx=>List.mem_append_right _ hx
theorem InB.z {xs:List Inp} (h:InB F b a n λ k=>xs.getD k dI):InB F b a n λ k=>xs.getD (0+k) dI:=by simpa using h
theorem InB.rows {o N:Nat} {full:List Inp} {ty:TypeId} {fz:Nat × Nat} (hI:(b,.rows 3 N (D5 full) ty fz) ∈ F) (hir:o+n <= N) (hx:∀ k,k < n -> full.getD (o+k) dI=f k):InB F b (o * 3) n f:=by
 intro w hw k hk j v hj
 have hb:=hw _ hI
 have hj3:j < 3:=by have:=(List.getElem?_eq_some_iff.1 hj).1;simpa using this
 rw [gX (i:=o+k) (k:=j) hb rfl rfl (by show o * 3+k * 3+j=(o+k) * 3+j;omega) (by omega) hj3,<- hj]
 show some (gC.cell (full.getD (o+k) dI) j)=_
 rw [hx k hk]
 rcases j with _ | _ | _ | j
 ·rfl
 ·rfl
 ·rfl
 ·omega
def RowB (F:HL) (A:Option Addr) (n:Nat) (f:Nat -> Inp):Prop:=n=0 \/ ∃ b a,A=some ⟨b,a,none⟩ /\ InB F b a n f
theorem RowB.at {A:Option Addr} (h:RowB F A n f) {k:Nat} (hk:k < n):∃ b a,A=some ⟨b,a,none⟩ /\ InB F b a n f:=by
 rcases h with h | h
 ·omega
 ·exact h
theorem RowB.mono {A:Option Addr} {F':HL} (h:RowB F A n f) (hs:∀ x ∈ F,x ∈ F'):RowB F' A n f:=h.imp id λ ⟨b,a,e,hI⟩=>⟨b,a,e,hI.mono hs⟩
theorem RowB.up {A:Option Addr} {X:HL} (h:RowB F A n f):RowB (X++F) A n f:=h.mono λ x hx=>List.mem_append_right _ hx
theorem InB.rB (h:InB F b a n f):RowB F (some ⟨b,a,none⟩) n f:=.inr ⟨b,a,rfl,h⟩
end
structure Stp where
 S:Setup
 cA:Option Addr
 cn:Nat
 cc:Nat
 e0:Int
 e1:Int
 e2:Int
 version:Int
 ib:Nat
 io:Nat
 ni:Nat
 ic:Nat
 iR:Nat
 ins:List Inp
 i:Int
 j:Int
 ended:Bool
 f0:Int
 f1:Int
 f2:Int
 f3:Int
 emitted:Bool
 code:List Ins
def Stp.inp (t:Stp) (k:Nat):Inp:=t.ins.getD (t.io+k) dI
def movP (S:Setup) (k:Int):Prop:=(0 <= k /\ k < S.nb) /\ (S.body k.toNat).mot.inv > 0
instance (S:Setup) (k:Int):Decidable (movP S k):=inferInstanceAs (Decidable (_ /\ _))
theorem movP.has {S:Setup} {k:Int} (h:movP S k):0 <= k /\ k < S.nb:=h.1
def ar (S:Setup) (M:MemS) (k:Int):Mot:=⟨M.get (af S k+0),M.get (af S k+1),M.get (af S k+2),M.get (af S k+3),(S.body k.toNat).mot.inv⟩
def aM (t:Stp) (ph j:Int) (M:MemS):MemS:=((M.set 1 ph).set 2 0).set 3 j
def dH (t:Stp) (k:Int) (m:Mot) (M:MemS):MemS:=(((M.set (af t.S k+0) m.px).set (af t.S k+1) m.py).set (af t.S k+2) m.vx).set (af t.S k+3) m.vy
def d5 (t:Stp) (c sp pos lo hi:Int) (M:MemS):MemS:=if aG pos lo hi=pos then M.set c (aG pos lo hi) else (M.set c (aG pos lo hi)).set sp (bd (0 - fN ((M.set c (aG pos lo hi)).get sp) t.S.rest))
def bq (t:Stp) (M:MemS):MemS:=if t.i=0 then (M.set 13 t.version).set 11 0 else M
def bC (t:Stp) (M:MemS):MemS:=if ah t.S t.i >= 0 then if t.i < t.ni then ((M.set (ah t.S t.i+0) (t.inp t.i.toNat).dx).set (ah t.S t.i+1) (t.inp t.i.toNat).dy).set (ah t.S t.i+2) (t.inp t.i.toNat).act else M else M
def bZ (t:Stp) (M:MemS):MemS:=if bd (t.i+1) < t.S.players then M.set 2 (bd (t.i+1)) else aM t 1 0 M
def aQ (t:Stp) (M:MemS):MemS:=bZ t (bC t (bq t M))
abbrev Stp.l (t:Stp) (mb:Nat):List Value:=[.iface 114 (vP mb 0),vI t.S.players,vS t.S.bb (t.S.bo * 9) t.S.nb t.S.bc,vI t.S.box.x0,vI t.S.box.y0,vI t.S.box.x1,vI t.S.box.y1,.slice t.S.rA t.S.rn t.S.rc,.slice t.S.dA t.S.dn t.S.dc,vI t.S.fog,vI t.S.g.x,vI t.S.g.y,vI t.S.push,vI t.S.drag,vI t.S.rest,vI t.S.rounds,vI t.S.fuel,.slice t.cA t.cn t.cc,vI t.e0,vI t.e1,vI t.e2,vI t.version,vS t.ib t.iR t.ni t.ic,vI t.i,vI t.j,.bool t.ended,vI t.f0,vI t.f1,vI t.f2,vI t.f3,.bool t.emitted]
abbrev Stp.lp (t:Stp) (mb:Nat):List Value:=[.iface 114 (vP mb 0),vI t.S.players,vS t.S.bb (t.S.bo * 9) t.S.nb t.S.bc,vI t.S.box.x0,vI t.S.box.y0,vI t.S.box.x1,vI t.S.box.y1,.slice t.S.rA t.S.rn t.S.rc,.slice t.S.dA t.S.dn t.S.dc,vI t.S.fog,vI t.S.g.x,vI t.S.g.y,vI t.S.push,vI t.S.drag,vI t.S.rest,vI t.S.rounds,vI t.S.fuel,.slice t.cA t.cn t.cc,vI t.e0,vI t.e1,vI t.e2,vI t.version,vS t.ib t.iR t.ni t.ic,vI t.i,vI t.j,.bool t.ended]
theorem pD (t:Stp) (k:Int) (tb mb:Nat) (F:HL) (hb:(tb,.lit (Stp.l t mb) 267 (0,0)) ∈ F):Sp Tryz.prog 188 #[vP tb 0,vI k] [] F (λ u H'=>u=.bool (decide (0 <= k /\ k < t.S.nb)) /\ H'=[]):=by
 refine Sp.run Tryz.func188 rfl (mc hb mn) (A:=[]) (Ts:=[]) rfl λ w0=>?_
 refine ae 10 [] λ _=>RN.em (k >= 0) 7 (λ h1=>?_) λ h1=>?_
 ·refine ae 12 [.ro 0] λ _=>RN.ret [] [] [] (v:=.bool (decide (k < (t.S.nb:Int)))) (H':=[]) ?_
  exact ⟨by simp [*],rfl⟩
 ·refine ae 12 [] λ _=>RN.ret [] [] [] (v:=.bool false) (H':=[]) ?_
  exact ⟨by simp [*],rfl⟩
theorem i4 (t:Stp) (k:Int) (tb mb:Nat) (F:HL) (hb:(tb,.lit (Stp.l t mb) 267 (0,0)) ∈ F) (hS:SetIn F t.S):Sp Tryz.prog 181 #[vP tb 0,vI k] [] F (λ u H'=>u=.bool (decide (movP t.S k)) /\ H'=[]):=by
 have hn:=hS.nb
 have hr:=hS.room
 refine Sp.run Tryz.func181 rfl (mc hb (mc hS.blk mn)) (A:=[]) (Ts:=[]) rfl λ w0=>?_
 refine ae 9 [] λ _=>aj (pD t k tb mb _ (List.mem_append_right _ hb))<|ae 1 [] λ _=>RN.em (0 <= k /\ k < t.S.nb) 8 (λ h1=>?_) λ h1=>?_
 ·refine ai 15 [.ro 0,.ix ((k).toNat),.rorow 1 (t.S.bo+((k).toNat)) 6] [((t.S.bo * 9+((k).toNat) * 9)+6)=(t.S.bo+((k).toNat)) * 9+6 /\ (t.S.bo+((k).toNat)) < t.S.bR,k=(((k).toNat:Nat):Int) /\ (k).toNat < t.S.nb] λ _=>RN.ret [] [] [] (v:=.bool (decide ((t.S.bods.getD (t.S.bo+((k).toNat)) dB).mot.inv > 0))) (H':=[]) ?_
  refine ⟨?_,rfl⟩
  simp [movP,Setup.body, *]
 ·refine ae 15 [] λ _=>RN.ret [] [] [] (v:=.bool false) (H':=[]) ?_
  refine ⟨?_,rfl⟩
  simp [movP,Setup.body, *]
theorem fm (t:Stp) (i:Int) (tb mb:Nat) (M:MemS) (k:Nat) (T F:HL) (hb:(tb,.lit (Stp.l t mb) 267 (0,0)) ∈ F) (hS:SetIn F t.S) (hM:MemH mb M k T) (hT:∀ x ∈ T,x ∈ F) (hi:0 <= i /\ i < t.S.nb) :Sp Tryz.prog 182 #[vP tb 0,vI i] [] F (λ u H'=>u=.agg #[vI ((ar t.S M i).px),vI ((ar t.S M i).py),vI ((ar t.S M i).vx),vI ((ar t.S M i).vy),vI ((ar t.S M i).inv)] /\ H'=[]):=by
 have hp:=hS.pl
 have hn:=hS.nb
 have hr:=hS.room
 refine Sp.run Tryz.func182 rfl (mc hb (mc hS.blk mn)) (A:=[]) (Ts:=[]) rfl λ w0=>?_
 refine ae 12 [.ro 0,.ro 0,.ro 0,.ro 0,.ro 0,.ro 0,.ro 0,.ro 0,.ro 0,.ro 0,.ro 0,.ro 0,.ro 0,.ro 0,.ro 0,.ro 0] λ n1=>aj (cI t.S i _ hS.toSetN) ?_
 have hb2:=cH hS.toSetN i
 refine ae 4 [] λ _=>RN.draw [41] []<|aJ [] [0,4,7,11,15,19,22,26,30,35,1,5,8,12,16,20,23,27,31,2,9,17,24,32,3,10,18,25,33,34,36,37,38,39] [.nw,.nw,.nw,.nw,.ro 0,.ro 0,.ro 0,.ro 0,.ro 0,.ix ((i).toNat),.rorow 1 (t.S.bo+((i).toNat)) 6] [((t.S.bo * 9+((i).toNat) * 9)+6)=(t.S.bo+((i).toNat)) * 9+6 /\ (t.S.bo+((i).toNat)) < t.S.bR,i=(((i).toNat:Nat):Int) /\ (i).toNat < t.S.nb,bg ((af t.S i)+3),bg ((af t.S i)+2),bg ((af t.S i)+1),bg ((af t.S i)+0)]<|au [] 6 (λ X_=>(az ((af t.S i)+0) hM (λ x hx=>List.mem_append_right _ (List.mem_append_right _ (hT x hx)))))<|au [] 13 (λ X_=>(az ((af t.S i)+1) hM (λ x hx=>List.mem_append_right _ (List.mem_append_right _ (hT x hx)))))<|ag [] [14] []<|au [] 21 (λ X_=>(az ((af t.S i)+2) hM (λ x hx=>List.mem_append_right _ (List.mem_append_right _ (hT x hx)))))<|au [] 28 (λ X_=>(az ((af t.S i)+3) hM (λ x hx=>List.mem_append_right _ (List.mem_append_right _ (hT x hx)))))<|ag [] [29,40] []<|RD.one 41 (RDO.ev [] (ow 0 5) λ _=>?_)
 refine RD.fin<|ae 1 [] λ _=>?_
 exact RN.ret (ow 0 5) [] [] ⟨rfl,rfl⟩
theorem bK (t:Stp) (ph:Int) (j:Int) (tb mb:Nat) (M:MemS) (k:Nat) (T F:HL) (hM:MemH mb M (k+3) T) (hS:SetIn F t.S) :Sp Tryz.prog 178 #[vP tb 0,vI ph,vI j] (ap [(tb,.lit (Stp.l t mb) 267 (0,0))] [T]) F (λ u H'=>∃ x,H'=ap [(tb,.lit (Stp.l t mb) 267 (0,0))] [x] /\ (MemH mb (aM t ph j M) k x)):=by
 have hp:=hS.pl
 have hn:=hS.nb
 have hr:=hS.room
 refine Sp.run Tryz.func178 rfl (mc hS.blk mn) (A:=[(tb,.lit (Stp.l t mb) 267 (0,0))]) (Ts:=[T]) rfl λ w0=>?_
 refine ae 7 [.own 0] λ _=>RN.ct [] [0] (ak 1 ph hM) ?_
 rintro _ T1 hM2
 refine ae 8 [.own 0] λ _=>RN.ct [] [0] (ak 2 0 hM2) ?_
 rintro _ T3 hM4
 refine ae 8 [.own 0] λ _=>RN.ct [] [0] (ak 3 j hM4) ?_
 rintro _ T5 hM6
 refine ae 1 [] λ _=>RN.ret [] [0] [0] (v:=.tuple #[]) (H':=(ap [(tb,.lit (Stp.l t mb) 267 (0,0))] [T5])) ?_
 refine ⟨T5,rfl,?_⟩
 have e:(aM t ph j M)=(((M.set 1 ph).set 2 0).set 3 j):=by
  first | (simp only [aM];done) | (simp only [aM];rfl) | rfl
 rw [e]
 exact hM6.weak (by omega)
theorem lP (t:Stp) (i:Int) (m:Mot) (tb mb:Nat) (M:MemS) (k:Nat) (T F:HL) (hM:MemH mb M (k+4) T) (hS:SetIn F t.S) :Sp Tryz.prog 209 #[vP tb 0,vI i,.agg #[vI m.px,vI m.py,vI m.vx,vI m.vy,vI m.inv]] (ap [(tb,.lit (Stp.l t mb) 267 (0,0))] [T]) F (λ u H'=>∃ x,H'=ap [(tb,.lit (Stp.l t mb) 267 (0,0))] [x] /\ (MemH mb (dH t i m M) k x)):=by
 have hp:=hS.pl
 have hn:=hS.nb
 have hr:=hS.room
 refine Sp.run Tryz.func209 rfl (mc hS.blk mn) (A:=[(tb,.lit (Stp.l t mb) 267 (0,0))]) (Ts:=[T]) rfl λ w0=>?_
 refine ae 12 (ow 1 16) λ n1=>aj (cI t.S i _ hS.toSetN) ?_
 have hb2:=cH hS.toSetN i
 refine ae 4 [] λ _=>RN.draw [9] []<|aJ [] [0,4,6,1,5,7,2,8,3] [.nw,.own 0,.own 1] [bg ((af t.S i)+0)]<|RD.one 9 (RDO.ct [] [] [0] (ak ((af t.S i)+0) m.px hM) ?_)
 rintro _ T3 hM4
 refine RD.fin<|ae 2 [] λ _=>RN.draw [9] []<|aJ [] [0,4,6,1,5,7,2,8,3] [.nw,.own 0,.own 1] [bg ((af t.S i)+1)]<|RD.one 9 (RDO.ct [] [] [0] (ak ((af t.S i)+1) m.py hM4) ?_)
 rintro _ T5 hM6
 refine RD.fin<|ae 2 [] λ _=>RN.draw [9] []<|aJ [] [0,4,6,1,5,7,2,8,3] [.nw,.own 0,.own 1] [bg ((af t.S i)+2)]<|RD.one 9 (RDO.ct [] [] [0] (ak ((af t.S i)+2) m.vx hM6) ?_)
 rintro _ T7 hM8
 refine RD.fin<|ae 1 [] λ _=>RN.draw [9] []<|aJ [] [0,4,6,1,5,7,2,8,3] [.nw,.own 0,.own 1] [bg ((af t.S i)+3)]<|RD.one 9 (RDO.ct [] [] [0] (ak ((af t.S i)+3) m.vy hM8) ?_)
 rintro _ T9 hM10
 refine RD.fin<|RN.ret [] [1] [0] (v:=.tuple #[]) (H':=(ap [(tb,.lit (Stp.l t mb) 267 (0,0))] [T9])) ?_
 refine ⟨T9,rfl,?_⟩
 have e:(dH t i m M)=((((M.set ((af t.S i)+0) m.px).set ((af t.S i)+1) m.py).set ((af t.S i)+2) m.vx).set ((af t.S i)+3) m.vy):=by
  first | (simp only [dH];done) | (simp only [dH];rfl) | rfl
 rw [e]
 exact hM10.weak (by omega)
theorem sj (t:Stp) (c:Int) (s:Int) (pos:Int) (lo:Int) (hi:Int) (tb mb:Nat) (M:MemS) (k:Nat) (T F:HL) (hM:MemH mb M (k+2) T) (hS:SetIn F t.S) :Sp Tryz.prog 212 #[vP tb 0,vI c,vI s,vI pos,vI lo,vI hi] (ap [(tb,.lit (Stp.l t mb) 267 (0,0))] [T]) F (λ u H'=>∃ x,H'=ap [(tb,.lit (Stp.l t mb) 267 (0,0))] [x] /\ (MemH mb (d5 t c s pos lo hi M) k x)):=by
 have hp:=hS.pl
 have hn:=hS.nb
 have hr:=hS.room
 refine Sp.run Tryz.func212 rfl (mc hS.blk mn) (A:=[(tb,.lit (Stp.l t mb) 267 (0,0))]) (Ts:=[T]) rfl λ w0=>?_
 refine ae 5 [] λ _=>aj (cB pos lo hi  _)<|ae 11 [.own 0] λ _=>RN.ct [] [0] (ak c (aG pos lo hi) hM) ?_
 rintro _ T1 hM2
 refine ae 9 [] λ _=>RN.en (aG pos lo hi=pos) 26 (λ h3=>?_) λ h3=>?_
 ·refine ae 2 [] λ _=>RN.ret [] [0] [0] (v:=.tuple #[]) (H':=(ap [(tb,.lit (Stp.l t mb) 267 (0,0))] [T1])) ?_
  refine ⟨T1,rfl,?_⟩
  have e:(d5 t c s pos lo hi M)=(M.set c (aG pos lo hi)):=by
   first | (simp only [d5,if_pos h3];done) | (simp only [d5,if_pos h3];rfl) | rfl
  rw [e]
  exact hM2.weak (by omega)
 ·refine ae 1 [] λ _=>RN.draw [20] []<|ag [] [0,4,5,9,11,1,6,12,2,7,13,3,8,14,15,18,19] [.own 0,.own 0,.own 0]<|au [] 10 (λ X_=>(az s hM2 (aU 0)))<|au [] 16 (λ X_=>(mX ((M.set c (aG pos lo hi)).get s) t.S.rest  _))<|ag [] [17] []<|RD.one 20 (RDO.ct [] [] [0] (ak s (IntKind.i64.wrap (0 - (fN ((M.set c (aG pos lo hi)).get s) t.S.rest))) hM2) ?_)
  rintro _ T4 hM5
  refine RD.fin<|RN.ret [] [0] [0] (v:=.tuple #[]) (H':=(ap [(tb,.lit (Stp.l t mb) 267 (0,0))] [T4])) ?_
  refine ⟨T4,rfl,?_⟩
  have e:(d5 t c s pos lo hi M)=((M.set c (aG pos lo hi)).set s (IntKind.i64.wrap (0 - (fN ((M.set c (aG pos lo hi)).get s) t.S.rest)))):=by
   first | (simp only [d5,if_neg h3];done) | (simp only [d5,if_neg h3];rfl) | rfl
  rw [e]
  exact hM5.weak (by omega)
theorem BI (t:Stp)  (tb mb:Nat) (M:MemS) (k:Nat) (T F:HL) (hM:MemH mb M (k+8) T) (hS:SetIn F t.S) (hI:InB F t.ib t.iR t.ni λ k=>t.ins.getD (t.io+k) dI) (hir:t.ni <= 1000000):Sp Tryz.prog 140 #[vP tb 0] (ap [(tb,.lit (Stp.l t mb) 267 (0,0))] [T]) F (λ u H'=>∃ x,H'=ap [(tb,.lit (Stp.l t mb) 267 (0,0))] [x] /\ (MemH mb (aQ t M) k x)):=by
 have hp:=hS.pl
 have hn:=hS.nb
 have hr:=hS.room
 refine Sp.run Tryz.func140 rfl (mc hS.blk mn) (A:=[(tb,.lit (Stp.l t mb) 267 (0,0))]) (Ts:=[T]) rfl λ w0=>?_
 refine ae 10 [.own 0] λ _=>RN.em (t.i=0) 8 (λ h1=>?_) λ h1=>?_
 ·refine ae 2 [] λ _=>RN.draw [10] []<|ag [] [0,4,1,5,2,6,3,7,8,9] [.own 0,.own 0]<|RD.one 10 (RDO.ct [] [] [0] (ak 13 t.version hM) ?_)
  rintro _ T2 hM3
  refine RD.fin<|ae 6 [.own 0] λ _=>RN.ct [] [0] (ak 11 0 hM3) ?_
  rintro _ T4 hM5
  refine ae 4 [] λ _=>RN.draw [] []<|ag [] [0,4,1,5,2,6,3,7] (ow 0 17)<|au [] 8 (λ X_=>(gm t.S t.i _ hS.toSetN)) ?_
  have hb6:=gl hS.toSetN t.i
  refine ag [] [9] []<|RD.fin<|ae 2 [] λ _=>RN.draw [] []<|ag [] [0,1,2] []<|RD.em (ah t.S t.i >= 0) 36 (λ h7=>?_) λ h7=>?_
  ·refine ag [] [3,7,4,8,5,9,6,10,11,12,13] [.own 0,.own 0]<|RD.fin<|ae 1 [] λ _=>RN.em (t.i < (t.ni:Int)) 47 (λ h8=>?_) λ h8=>?_
   ·refine ae 2 [] λ _=>RN.draw [11] []<|aJ [] [0,4,1,5,2,6,3,7,8] [.own 0,.own 0,.ix ((t.i).toNat)] [t.i=(((t.i).toNat:Nat):Int) /\ (t.i).toNat < t.ni]<|D4 9 [vI (t.ins.getD (t.io+((t.i).toNat)) dI).dx,vI (t.ins.getD (t.io+((t.i).toNat)) dI).dy,vI (t.ins.getD (t.io+((t.i).toNat)) dI).act] (λ w_ h_=>hI w_ h_ ((t.i).toNat) (by omega)) ?_ []
    refine RD.one 10 (RDO.ev [] [] λ n9=>?_)
    refine RD.one 11 (RDO.ev [] [.own 0,.own 0,.own 0] λ _=>?_)
    refine RD.fin<|ae 2 [] λ _=>RN.draw [8] []<|aJ [] [0,4,6,1,5,7,2,3] [.nw,.own 0,.own 1] [bg ((ah t.S t.i)+0)]<|RD.one 8 (RDO.ct [] [] [0] (ak ((ah t.S t.i)+0) ((t.ins.getD (t.io+((t.i).toNat)) dI).dx) hM5) ?_)
    rintro _ T10 hM11
    refine RD.fin<|ae 2 [] λ _=>RN.draw [8] []<|aJ [] [0,4,6,1,5,7,2,3] [.nw,.own 0,.own 1] [bg ((ah t.S t.i)+1)]<|RD.one 8 (RDO.ct [] [] [0] (ak ((ah t.S t.i)+1) ((t.ins.getD (t.io+((t.i).toNat)) dI).dy) hM11) ?_)
    rintro _ T12 hM13
    refine RD.fin<|ae 1 [] λ _=>RN.draw [8] []<|aJ [] [0,4,6,1,5,7,2,3] [.nw,.own 0,.own 1] [bg ((ah t.S t.i)+2)]<|RD.one 8 (RDO.ct [] [] [0] (ak ((ah t.S t.i)+2) ((t.ins.getD (t.io+((t.i).toNat)) dI).act) hM13) ?_)
    rintro _ T14 hM15
    refine RD.fin<|ae 2 [] λ _=>RN.draw [] []<|ag [] [0,5,1,6,2,7,3,8,4,9,10] [.own 1,.own 1]<|RD.fin<|ae 1 [] λ _=>RN.em (IntKind.i64.wrap (t.i+1) < t.S.players) 95 (λ h16=>?_) λ h16=>?_
    ·refine ae 1 [] λ _=>RN.draw [11] []<|ag [] [0,4,1,5,2,6,3,7,8,9,10] [.own 1,.own 1]<|RD.one 11 (RDO.ct [] [] [0] (ak 2 (IntKind.i64.wrap (t.i+1)) hM15) ?_)
     rintro _ T17 hM18
     refine RD.fin<|RN.ret [] [1] [0] (v:=.tuple #[]) (H':=(ap [(tb,.lit (Stp.l t mb) 267 (0,0))] [T17])) ?_
     refine ⟨T17,rfl,?_⟩
     have e:(aQ t M)=((((((M.set 13 t.version).set 11 0).set ((ah t.S t.i)+0) ((t.ins.getD (t.io+((t.i).toNat)) dI).dx)).set ((ah t.S t.i)+1) ((t.ins.getD (t.io+((t.i).toNat)) dI).dy)).set ((ah t.S t.i)+2) ((t.ins.getD (t.io+((t.i).toNat)) dI).act)).set 2 (IntKind.i64.wrap (t.i+1))):=by
      first | (simp only [aQ,bq,bC,bZ,Stp.inp,if_pos h1,if_pos h7,if_pos h8,if_pos h16];done) | (simp only [aQ,bq,bC,bZ,Stp.inp,if_pos h1,if_pos h7,if_pos h8,if_pos h16];rfl) | rfl
     rw [e]
     exact hM18.weak (by omega)
    ·refine ae 3 [] λ _=>RN.ct [1] [0] (bK t 1 0 tb mb (((((M.set 13 t.version).set 11 0).set ((ah t.S t.i)+0) ((t.ins.getD (t.io+((t.i).toNat)) dI).dx)).set ((ah t.S t.i)+1) ((t.ins.getD (t.io+((t.i).toNat)) dI).dy)).set ((ah t.S t.i)+2) ((t.ins.getD (t.io+((t.i).toNat)) dI).act)) k T14 _ hM15 hS.up ) ?_
     rintro _ T19 hM20
     refine ae 1 [] λ _=>RN.ret [] [0] [0] (v:=.tuple #[]) (H':=(ap [(tb,.lit (Stp.l t mb) 267 (0,0))] [T19])) ?_
     refine ⟨T19,rfl,?_⟩
     have e:(aQ t M)=(aM t 1 0 (((((M.set 13 t.version).set 11 0).set ((ah t.S t.i)+0) ((t.ins.getD (t.io+((t.i).toNat)) dI).dx)).set ((ah t.S t.i)+1) ((t.ins.getD (t.io+((t.i).toNat)) dI).dy)).set ((ah t.S t.i)+2) ((t.ins.getD (t.io+((t.i).toNat)) dI).act))):=by
      first | (simp only [aQ,bq,bC,bZ,Stp.inp,if_pos h1,if_pos h7,if_pos h8,if_neg h16];done) | (simp only [aQ,bq,bC,bZ,Stp.inp,if_pos h1,if_pos h7,if_pos h8,if_neg h16];rfl) | rfl
     rw [e]
     exact hM20.weak (by omega)
   ·refine ae 4 [] λ _=>RN.draw [] []<|ag [] [0,5,1,6,2,7,3,8,4,9,10] [.own 0,.own 0]<|RD.fin<|ae 1 [] λ _=>RN.em (IntKind.i64.wrap (t.i+1) < t.S.players) 95 (λ h21=>?_) λ h21=>?_
    ·refine ae 1 [] λ _=>RN.draw [11] []<|ag [] [0,4,1,5,2,6,3,7,8,9,10] [.own 0,.own 0]<|RD.one 11 (RDO.ct [] [] [0] (ak 2 (IntKind.i64.wrap (t.i+1)) hM5) ?_)
     rintro _ T22 hM23
     refine RD.fin<|RN.ret [] [0] [0] (v:=.tuple #[]) (H':=(ap [(tb,.lit (Stp.l t mb) 267 (0,0))] [T22])) ?_
     refine ⟨T22,rfl,?_⟩
     have e:(aQ t M)=(((M.set 13 t.version).set 11 0).set 2 (IntKind.i64.wrap (t.i+1))):=by
      first | (simp only [aQ,bq,bC,bZ,Stp.inp,if_pos h1,if_pos h7,if_neg h8,if_pos h21];done) | (simp only [aQ,bq,bC,bZ,Stp.inp,if_pos h1,if_pos h7,if_neg h8,if_pos h21];rfl) | rfl
     rw [e]
     exact hM23.weak (by omega)
    ·refine ae 3 [] λ _=>RN.ct [0] [0] (bK t 1 0 tb mb ((M.set 13 t.version).set 11 0) (k+3) T4 _ hM5 hS.up ) ?_
     rintro _ T24 hM25
     refine ae 1 [] λ _=>RN.ret [] [0] [0] (v:=.tuple #[]) (H':=(ap [(tb,.lit (Stp.l t mb) 267 (0,0))] [T24])) ?_
     refine ⟨T24,rfl,?_⟩
     have e:(aQ t M)=(aM t 1 0 ((M.set 13 t.version).set 11 0)):=by
      first | (simp only [aQ,bq,bC,bZ,Stp.inp,if_pos h1,if_pos h7,if_neg h8,if_neg h21];done) | (simp only [aQ,bq,bC,bZ,Stp.inp,if_pos h1,if_pos h7,if_neg h8,if_neg h21];rfl) | rfl
     rw [e]
     exact hM25.weak (by omega)
  ·refine ag [] [3,7,4,8,5,9,6,10,11,12,13] []<|RD.fin<|ae 5 [] λ _=>RN.draw [] []<|ag [] [0,5,1,6,2,7,3,8,4,9,10] [.own 0,.own 0]<|RD.fin<|ae 1 [] λ _=>RN.em (IntKind.i64.wrap (t.i+1) < t.S.players) 95 (λ h26=>?_) λ h26=>?_
   ·refine ae 1 [] λ _=>RN.draw [11] []<|ag [] [0,4,1,5,2,6,3,7,8,9,10] [.own 0,.own 0]<|RD.one 11 (RDO.ct [] [] [0] (ak 2 (IntKind.i64.wrap (t.i+1)) hM5) ?_)
    rintro _ T27 hM28
    refine RD.fin<|RN.ret [] [0] [0] (v:=.tuple #[]) (H':=(ap [(tb,.lit (Stp.l t mb) 267 (0,0))] [T27])) ?_
    refine ⟨T27,rfl,?_⟩
    have e:(aQ t M)=(((M.set 13 t.version).set 11 0).set 2 (IntKind.i64.wrap (t.i+1))):=by
     first | (simp only [aQ,bq,bC,bZ,Stp.inp,if_pos h1,if_neg h7,if_pos h26];done) | (simp only [aQ,bq,bC,bZ,Stp.inp,if_pos h1,if_neg h7,if_pos h26];rfl) | rfl
    rw [e]
    exact hM28.weak (by omega)
   ·refine ae 3 [] λ _=>RN.ct [0] [0] (bK t 1 0 tb mb ((M.set 13 t.version).set 11 0) (k+3) T4 _ hM5 hS.up ) ?_
    rintro _ T29 hM30
    refine ae 1 [] λ _=>RN.ret [] [0] [0] (v:=.tuple #[]) (H':=(ap [(tb,.lit (Stp.l t mb) 267 (0,0))] [T29])) ?_
    refine ⟨T29,rfl,?_⟩
    have e:(aQ t M)=(aM t 1 0 ((M.set 13 t.version).set 11 0)):=by
     first | (simp only [aQ,bq,bC,bZ,Stp.inp,if_pos h1,if_neg h7,if_neg h26];done) | (simp only [aQ,bq,bC,bZ,Stp.inp,if_pos h1,if_neg h7,if_neg h26];rfl) | rfl
    rw [e]
    exact hM30.weak (by omega)
 ·refine ae 5 [] λ _=>RN.draw [] []<|ag [] [0,4,1,5,2,6,3,7] (ow 0 17)<|au [] 8 (λ X_=>(gm t.S t.i _ hS.toSetN)) ?_
  have hb31:=gl hS.toSetN t.i
  refine ag [] [9] []<|RD.fin<|ae 2 [] λ _=>RN.draw [] []<|ag [] [0,1,2] []<|RD.em (ah t.S t.i >= 0) 36 (λ h32=>?_) λ h32=>?_
  ·refine ag [] [3,7,4,8,5,9,6,10,11,12,13] [.own 0,.own 0]<|RD.fin<|ae 1 [] λ _=>RN.em (t.i < (t.ni:Int)) 47 (λ h33=>?_) λ h33=>?_
   ·refine ae 2 [] λ _=>RN.draw [11] []<|aJ [] [0,4,1,5,2,6,3,7,8] [.own 0,.own 0,.ix ((t.i).toNat)] [t.i=(((t.i).toNat:Nat):Int) /\ (t.i).toNat < t.ni]<|D4 9 [vI (t.ins.getD (t.io+((t.i).toNat)) dI).dx,vI (t.ins.getD (t.io+((t.i).toNat)) dI).dy,vI (t.ins.getD (t.io+((t.i).toNat)) dI).act] (λ w_ h_=>hI w_ h_ ((t.i).toNat) (by omega)) ?_ []
    refine RD.one 10 (RDO.ev [] [] λ n34=>?_)
    refine RD.one 11 (RDO.ev [] [.own 0,.own 0,.own 0] λ _=>?_)
    refine RD.fin<|ae 2 [] λ _=>RN.draw [8] []<|aJ [] [0,4,6,1,5,7,2,3] [.nw,.own 0,.own 1] [bg ((ah t.S t.i)+0)]<|RD.one 8 (RDO.ct [] [] [0] (ak ((ah t.S t.i)+0) ((t.ins.getD (t.io+((t.i).toNat)) dI).dx) hM) ?_)
    rintro _ T35 hM36
    refine RD.fin<|ae 2 [] λ _=>RN.draw [8] []<|aJ [] [0,4,6,1,5,7,2,3] [.nw,.own 0,.own 1] [bg ((ah t.S t.i)+1)]<|RD.one 8 (RDO.ct [] [] [0] (ak ((ah t.S t.i)+1) ((t.ins.getD (t.io+((t.i).toNat)) dI).dy) hM36) ?_)
    rintro _ T37 hM38
    refine RD.fin<|ae 1 [] λ _=>RN.draw [8] []<|aJ [] [0,4,6,1,5,7,2,3] [.nw,.own 0,.own 1] [bg ((ah t.S t.i)+2)]<|RD.one 8 (RDO.ct [] [] [0] (ak ((ah t.S t.i)+2) ((t.ins.getD (t.io+((t.i).toNat)) dI).act) hM38) ?_)
    rintro _ T39 hM40
    refine RD.fin<|ae 2 [] λ _=>RN.draw [] []<|ag [] [0,5,1,6,2,7,3,8,4,9,10] [.own 1,.own 1]<|RD.fin<|ae 1 [] λ _=>RN.em (IntKind.i64.wrap (t.i+1) < t.S.players) 95 (λ h41=>?_) λ h41=>?_
    ·refine ae 1 [] λ _=>RN.draw [11] []<|ag [] [0,4,1,5,2,6,3,7,8,9,10] [.own 1,.own 1]<|RD.one 11 (RDO.ct [] [] [0] (ak 2 (IntKind.i64.wrap (t.i+1)) hM40) ?_)
     rintro _ T42 hM43
     refine RD.fin<|RN.ret [] [1] [0] (v:=.tuple #[]) (H':=(ap [(tb,.lit (Stp.l t mb) 267 (0,0))] [T42])) ?_
     refine ⟨T42,rfl,?_⟩
     have e:(aQ t M)=((((M.set ((ah t.S t.i)+0) ((t.ins.getD (t.io+((t.i).toNat)) dI).dx)).set ((ah t.S t.i)+1) ((t.ins.getD (t.io+((t.i).toNat)) dI).dy)).set ((ah t.S t.i)+2) ((t.ins.getD (t.io+((t.i).toNat)) dI).act)).set 2 (IntKind.i64.wrap (t.i+1))):=by
      first | (simp only [aQ,bq,bC,bZ,Stp.inp,if_neg h1,if_pos h32,if_pos h33,if_pos h41];done) | (simp only [aQ,bq,bC,bZ,Stp.inp,if_neg h1,if_pos h32,if_pos h33,if_pos h41];rfl) | rfl
     rw [e]
     exact hM43.weak (by omega)
    ·refine ae 3 [] λ _=>RN.ct [1] [0] (bK t 1 0 tb mb (((M.set ((ah t.S t.i)+0) ((t.ins.getD (t.io+((t.i).toNat)) dI).dx)).set ((ah t.S t.i)+1) ((t.ins.getD (t.io+((t.i).toNat)) dI).dy)).set ((ah t.S t.i)+2) ((t.ins.getD (t.io+((t.i).toNat)) dI).act)) (k+2) T39 _ hM40 hS.up ) ?_
     rintro _ T44 hM45
     refine ae 1 [] λ _=>RN.ret [] [0] [0] (v:=.tuple #[]) (H':=(ap [(tb,.lit (Stp.l t mb) 267 (0,0))] [T44])) ?_
     refine ⟨T44,rfl,?_⟩
     have e:(aQ t M)=(aM t 1 0 (((M.set ((ah t.S t.i)+0) ((t.ins.getD (t.io+((t.i).toNat)) dI).dx)).set ((ah t.S t.i)+1) ((t.ins.getD (t.io+((t.i).toNat)) dI).dy)).set ((ah t.S t.i)+2) ((t.ins.getD (t.io+((t.i).toNat)) dI).act))):=by
      first | (simp only [aQ,bq,bC,bZ,Stp.inp,if_neg h1,if_pos h32,if_pos h33,if_neg h41];done) | (simp only [aQ,bq,bC,bZ,Stp.inp,if_neg h1,if_pos h32,if_pos h33,if_neg h41];rfl) | rfl
     rw [e]
     exact hM45.weak (by omega)
   ·refine ae 4 [] λ _=>RN.draw [] []<|ag [] [0,5,1,6,2,7,3,8,4,9,10] [.own 0,.own 0]<|RD.fin<|ae 1 [] λ _=>RN.em (IntKind.i64.wrap (t.i+1) < t.S.players) 95 (λ h46=>?_) λ h46=>?_
    ·refine ae 1 [] λ _=>RN.draw [11] []<|ag [] [0,4,1,5,2,6,3,7,8,9,10] [.own 0,.own 0]<|RD.one 11 (RDO.ct [] [] [0] (ak 2 (IntKind.i64.wrap (t.i+1)) hM) ?_)
     rintro _ T47 hM48
     refine RD.fin<|RN.ret [] [0] [0] (v:=.tuple #[]) (H':=(ap [(tb,.lit (Stp.l t mb) 267 (0,0))] [T47])) ?_
     refine ⟨T47,rfl,?_⟩
     have e:(aQ t M)=(M.set 2 (IntKind.i64.wrap (t.i+1))):=by
      first | (simp only [aQ,bq,bC,bZ,Stp.inp,if_neg h1,if_pos h32,if_neg h33,if_pos h46];done) | (simp only [aQ,bq,bC,bZ,Stp.inp,if_neg h1,if_pos h32,if_neg h33,if_pos h46];rfl) | rfl
     rw [e]
     exact hM48.weak (by omega)
    ·refine ae 3 [] λ _=>RN.ct [0] [0] (bK t 1 0 tb mb M (k+5) T _ hM hS.up ) ?_
     rintro _ T49 hM50
     refine ae 1 [] λ _=>RN.ret [] [0] [0] (v:=.tuple #[]) (H':=(ap [(tb,.lit (Stp.l t mb) 267 (0,0))] [T49])) ?_
     refine ⟨T49,rfl,?_⟩
     have e:(aQ t M)=(aM t 1 0 M):=by
      first | (simp only [aQ,bq,bC,bZ,Stp.inp,if_neg h1,if_pos h32,if_neg h33,if_neg h46];done) | (simp only [aQ,bq,bC,bZ,Stp.inp,if_neg h1,if_pos h32,if_neg h33,if_neg h46];rfl) | rfl
     rw [e]
     exact hM50.weak (by omega)
  ·refine ag [] [3,7,4,8,5,9,6,10,11,12,13] []<|RD.fin<|ae 5 [] λ _=>RN.draw [] []<|ag [] [0,5,1,6,2,7,3,8,4,9,10] [.own 0,.own 0]<|RD.fin<|ae 1 [] λ _=>RN.em (IntKind.i64.wrap (t.i+1) < t.S.players) 95 (λ h51=>?_) λ h51=>?_
   ·refine ae 1 [] λ _=>RN.draw [11] []<|ag [] [0,4,1,5,2,6,3,7,8,9,10] [.own 0,.own 0]<|RD.one 11 (RDO.ct [] [] [0] (ak 2 (IntKind.i64.wrap (t.i+1)) hM) ?_)
    rintro _ T52 hM53
    refine RD.fin<|RN.ret [] [0] [0] (v:=.tuple #[]) (H':=(ap [(tb,.lit (Stp.l t mb) 267 (0,0))] [T52])) ?_
    refine ⟨T52,rfl,?_⟩
    have e:(aQ t M)=(M.set 2 (IntKind.i64.wrap (t.i+1))):=by
     first | (simp only [aQ,bq,bC,bZ,Stp.inp,if_neg h1,if_neg h32,if_pos h51];done) | (simp only [aQ,bq,bC,bZ,Stp.inp,if_neg h1,if_neg h32,if_pos h51];rfl) | rfl
    rw [e]
    exact hM53.weak (by omega)
   ·refine ae 3 [] λ _=>RN.ct [0] [0] (bK t 1 0 tb mb M (k+5) T _ hM hS.up ) ?_
    rintro _ T54 hM55
    refine ae 1 [] λ _=>RN.ret [] [0] [0] (v:=.tuple #[]) (H':=(ap [(tb,.lit (Stp.l t mb) 267 (0,0))] [T54])) ?_
    refine ⟨T54,rfl,?_⟩
    have e:(aQ t M)=(aM t 1 0 M):=by
     first | (simp only [aQ,bq,bC,bZ,Stp.inp,if_neg h1,if_neg h32,if_neg h51];done) | (simp only [aQ,bq,bC,bZ,Stp.inp,if_neg h1,if_neg h32,if_neg h51];rfl) | rfl
    rw [e]
    exact hM55.weak (by omega)
end Go.Proofs.YtobflkidpfkcaaaGreatDoor
