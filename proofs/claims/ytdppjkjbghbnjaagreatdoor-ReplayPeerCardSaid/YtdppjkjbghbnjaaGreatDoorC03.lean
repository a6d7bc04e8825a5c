import Derived.Laws.IdiomCopy
import Derived.Test.YtdppjkjbghbnjaaGreatDoorProg
import Derived.Shelf.Small.Bits
import Derived.Shelf.Strconv.Itoa0
import Derived.Test.YtdppjkjbghbnjaaGreatDoorC02
set_option maxHeartbeats 4000000
set_option maxRecDepth 100000
set_option linter.all false
namespace Go.Proofs.YtdppjkjbghbnjaaGreatDoor
open IntKind
open Go.RowKit Go.Shelf
section
variable {α:Type} {e:Enc α} {P:Program} {T:TypeId} {inf:TypeInfo} {z:Value} {l:List α} {A:Option Addr} {cap:Nat} {Hl F:HL}
theorem SlIs.toRowL(h:SlIs e T l A cap Hl)(hF:∀x∈Hl,x∈F):RowL e T F A l.length l:=by
 rcases h with ⟨rfl,rfl,rfl,rfl⟩|⟨b,o,full,rfl,rfl,h1,h2,h3⟩
 ·exact .zero _
 ·refine .rows b o (o+cap) full (0,0) _ l (hF _ (List.mem_singleton.2 rfl)) (by omega) rfl (λ k hk=>?_);have h4:((full.drop o).take l.length)[k]?=l[k]?:=by rw[h3]
  rw[aa7,if_pos hk,aa6] at h4;rw[aaI,aaI,h4]
theorem SlIs.one{x:α}{b:Nat}:SlIs e T [x] (some ⟨b,0,none⟩) 1 [(b,.rows e.w 1 (aL e [x]) T (0,0))]:=.inr ⟨b,0,[x],by simp,by simp,rfl,aaK _,rfl⟩
end
section
variable {r:Option Nat} {P:Program} {N:Nat} {D:List Deferred} {F:HL} {w0:World} {R:HL} {s:Cfg} {Q:Exit -> Act -> World -> Prop} {hards:List Nat} {Rd:HL}
def btC(i:Nat)(s:Cfg):Cfg:=match s with
 | ⟨c,k,L,A,Ts⟩=>⟨c,k,L,(oth [i] A.length).filterMap (A[·]?),[i].filterMap (A[·]?)::Ts⟩
theorem BR{A:HL}{Ts:List HL}{i:Nat}(h:([i]++oth [i] A.length).isPerm (List.range A.length)=true):(ap ((oth [i] A.length).filterMap (A[·]?)) ([i].filterMap (A[·]?)::Ts)).Perm (ap A Ts):=by
 have hp:=fL A [i] (oth [i] A.length) h;show ((oth [i] A.length).filterMap (A[·]?)++([i].filterMap (A[·]?)::Ts).flatten).Perm (A++Ts.flatten);rw[aa2,<- aaH];exact(List.perm_append_comm.trans hp).append_right _
theorem wD(i:Nat)(hk:RN r P N D F w0 R (btC i s) Q)(h:([i]++oth [i] s.A.length).isPerm (List.range s.A.length)=true:=by kernel_rfl):RN r P N D F w0 R s Q:=by
 obtain⟨c,k,L,A,Ts⟩:=s;exact⟨λ hR a w h1 h2 h3=>hk.h hR a w h1 (h2.perm ((BR h).append_right F)) h3⟩
theorem PC(i:Nat)(hk:RD r P N D F w0 R hards Rd (btC i s) Q)(h:([i]++oth [i] s.A.length).isPerm (List.range s.A.length)=true:=by kernel_rfl):RD r P N D F w0 R hards Rd s Q:=by
 obtain⟨c,k,L,A,Ts⟩:=s;refine⟨λ hR hs=>?_⟩;have h1:=hk.h hR hs;intro hcl a hF;exact JJ.perm _ _ _ _ _ (BR h) (h1 hcl a hF)
theorem fW(t:Nat){u v:Value}(e:u=v)(hk:RD r P N D F w0 R hards Rd (svC t v s) Q)(h:s.L.lookup t=some u:=by kernel_rfl):RD r P N D F w0 R hards Rd s Q:=by
 subst e;exact⟨λ hR hs hcl a hF=>hk.h hR hs hcl a (hF.fix h)⟩
variable {α:Type} {e:Enc α} {T:TypeId} {inf:TypeInfo} {z:Value}
theorem RN.appU(ok:EncOk e P T inf z)(l src:List α)(j:Nat){A:Option Addr}{n cap:Nat}{Hl:HL}{B:Option Addr}{m c':Nat}{tx:TypeId}(hn:n=l.length)(UA:SlIs e T l A cap Hl)(hb:l.length+src.length <= 100000000)
  (hs:SrcIn P e (ap s.A s.Ts++F) B m src)
  (hk:∀ (A':Option Addr) (f_:Nat) (o_:HL),(SlIs e T (l++src) A' f_ o_ /\ (bA A -> bA A')) -> RN r P N D F w0 R (Nj j o_ (dP N (.slice A' (n+src.length) f_) s)) Q)
  (h:BQ P N j (gi s) s=some (A,n,cap,T,B,m,c',tx,Hl):=by kernel_rfl):RN r P N D F w0 R s Q:=by
 obtain⟨o,a1,a2,t,e',q0,q1,q2,q3,q4,q5,q6,q7,q9,IT,SQ⟩:=qK h;refine⟨λ hR a w hF aT hB=>?_⟩;obtain⟨c,k,L,Bs,Ts⟩:=s;unfold gi at q0;cases c with
 | code c=>cases q0
 | ex c=>cases q0
 | drw _ _=>cases q0
 | ops ops i =>
  simp only at q0 q3 q4 q5 q9 IT SQ hF aT;have j_:ops.toList.drop i=o::ops.toList.drop (i+1):=by
   have iF:i<ops.toList.length:=(List.getElem?_eq_some_iff.1 q0).1;rw[List.drop_eq_getElem_cons iF,(List.getElem?_eq_some_iff.1 q0).2]
  show wpListIn _ _ _ _ _ _ _ _;rw[j_,wpListIn,if_pos (by simp[Region.wanted,q1])];refine⟨λ _ _=>trivial,?_⟩;have oF:=gt (A:=Bs) q9 IT;refine eF (by rw[q2];intro c hc;cases hc) (oG (x:=.slice B m c') (src:=src) (G:=Bs++((oth [j] Ts.length).filterMap (Ts[·]?)).flatten) ok q2 q6 q3 q4 hn q5 oF UA (λ w hw=>by have h5:=hs.2 c' q7 [] w hw;rwa [<- ok.size] at h5) hb a hF w aT) ?_;rintro u w' ⟨⟨A',f_,o_⟩,⟨rfl,Vf⟩,C_,Tv⟩;obtain⟨L',p1⟩:=cO SQ (.slice A' (n+src.length) f_);have hh:=(hk A' f_ o_ Vf).h hR;have Sh:dP N (.slice A' (n+src.length) f_) ⟨.ops ops i,k,L,Bs,Ts⟩=⟨.ops ops (i+1),k,L',Bs,Ts⟩:=by
   unfold dP;simp only[q0,p1]
  rw[Sh] at hh;refine hh _ w' (hF.put p1) (C_.perm (aaX F ?_)) (hB.trans Tv);show (Bs++(o_::(oth [j] Ts.length).filterMap (Ts[·]?)).flatten).Perm _;rw[aa2,<- aaH,<- aaH];exact aaX _ aaW
end
theorem zN{cs vs:List Value}(h:cs.length=vs.length):iT cs 0 vs=vs:=by
 apply List.ext_getElem?;intro j;rw[kl vs cs 0 (by omega) j];split
 ·rfl
 ·next h1=>rw[List.getElem?_eq_none (by omega),List.getElem?_eq_none (by omega)]
theorem nN{b:Nat}{ty:TypeId}{fz:Nat × Nat}:∀ (vs:List Value) (o:Nat) (W:World) (cs:List Value),W.heap[b]?=some (Blk.lit cs ty fz).den -> (W.setCells b o vs).heap[b]?=some (Blk.lit (iT cs o vs) ty fz).den
 | [],o,W,cs,h=>h
 | v::r,o,W,cs,h=>by
  rw[World.setCells,iT];have h1:=pD (v:=v) (a:=⟨b,o,none⟩) rfl rfl h;rw[iL] at h1;exact nN r (o+1) _ _ h1
theorem nO{b k:Nat}(hk:k≠b):∀ (vs:List Value) (o:Nat) (W:World),(W.setCells b o vs).heap[k]?=W.heap[k]?
 | [],_,_=>rfl
 | v::r,o,W=>by
  rw[World.setCells,nO hk r (o+1)];exact Below.heap_setCell _ _ _ _ hk
def Nl(P:Program)(o:Oper)(L:FL):Option (Addr × Nat × Nat × Addr × Nat × Nat × TypeId × TypeId × TypeId):=match o.guard,o.op with
 | none,.call c=>match c.callee,c.args.toList,c.argTypes.toList with
  | .builtin .copy,[a1,a2],[t,tx]=>match gh L a1 && gh L a2,eZ L a1,eZ L a2 with
   | true,.slice (some d) n cap,.slice (some a) m c'=>match P.underlying t with
    | some (.slice T)=>some (d,n,cap,a,m,c',T,t,tx)
    | _=>none
   | _,_,_=>none
  | _,_,_=>none
 | _,_=>none
section
variable {r:Option Nat} {P:Program} {N:Nat} {D:List Deferred} {F:HL} {w0:World} {R:HL} {s:Cfg} {Q:Exit -> Act -> World -> Prop}
theorem Ds{o:Oper}{L:FL}{d:Addr}{n cap:Nat}{a:Addr}{m c':Nat}{T t tx:TypeId}(h:Nl P o L=some (d,n,cap,a,m,c',T,t,tx)) :
  ∃a1 a2,o.guard=none /\ o.op=.call { callee:=.builtin .copy,args:=#[a1,a2],argTypes:=#[t,tx] } /\ (gh L a1 && gh L a2)=true /\ eZ L a1=.slice (some d) n cap /\ eZ L a2=.slice (some a) m c' /\ P.underlying t=some (.slice T):=by
 unfold Nl at h;split at h
 case h_2=>cases h
 rename_i c hg DO;split at h
 case h_2=>cases h
 rename_i a1 a2 t' tx' h1 h2 h3;split at h
 case h_2=>cases h
 rename_i d' n' f_ a' m' c2 h4 h5 h6;split at h
 case h_2=>cases h
 rename_i T' h7;simp only[Option.some.injEq,Prod.mk.injEq] at h;obtain⟨e1,e2,e3,e4,e5,e6,e7,e8,e9⟩:=h;subst e1;subst e2;subst e3;subst e4;subst e5;subst e6;subst e7;subst e8;subst e9;refine⟨a1,a2,hg,?_,h4,h5,h6,h7⟩;obtain⟨cal,args,Ym⟩:=c;simp only at h1 h2 h3;subst h1;have e1:args=#[a1,a2]:=by cases args;simp_all
 have e2:Ym=#[t',tx']:=by cases Ym;simp_all
 rw[DO,e1,e2]
def PD(P:Program)(N i:Nat)(oo:Option Oper)(s:Cfg):Option (Addr × Nat × Nat × Addr × Nat × Nat × TypeId × TypeId × TypeId × (Nat × Blk)):=match oo with
 | some o=>match Nl P o s.L,s.A[i]?,(eh N o.dst undef s.L).isSome with
  | some (d,n,cap,a,m,c',T,t,tx),some x,true=>some (d,n,cap,a,m,c',T,t,tx,x)
  | _,_,_=>none
 | none=>none
theorem RN.cpy(i:Nat)(X:Blk){b n cap m c':Nat}{a:Addr}{T t tx ty:TypeId}{g:Nat -> Nat -> Value}(vs:List Value)(hl:vs.length=n)(hm:m=n)(h1:∀v∈vs,v.oneCell'=true)(D_:(P.info? T).map (·.size)=some 1)
  (hs:∀w,Rel (ap s.A s.Ts++F) w -> ∀j v,vs[j]?=some v -> w.cell? (a.add j)=some v)
  (hX:X.den=(Blk.lit vs ty (0,0)).den) (hk:RN r P N D F w0 R (Pr i X (dP N (vI (n:Int)) s)) Q)
  (h:PD P N i (gi s) s=some (⟨b,0,none⟩,n,cap,a,m,c',T,t,tx,(b,.rows 1 n g ty (0,0))):=by kernel_rfl):RN r P N D F w0 R s Q:=by
 unfold PD at h;split at h
 case h_2=>cases h
 rename_i o q0;split at h
 case h_2=>cases h
 rename_i d' n' f_ a' m' c2 T' t' tx' x hv hx hp;simp only[Option.some.injEq,Prod.mk.injEq] at h;obtain⟨e1,e2,e3,e4,e5,e6,e7,e8,e9,e10⟩:=h;subst e1;subst e2;subst e3;subst e4;subst e5;subst e6;subst e7;subst e8;subst e9;subst e10;obtain⟨a1,a2,q1,q2,q3,q4,q5,q6⟩:=Ds hv;refine⟨λ hR aa w hF aT hB=>?_⟩;obtain⟨c,k,L,Bs,Ts⟩:=s;unfold gi at q0;cases c with
 | code c=>cases q0
 | ex c=>cases q0
 | drw _ _=>cases q0
 | ops ops pc =>
  simp only at q0 q3 q4 q5 hx hp hF aT hs;have j_:ops.toList.drop pc=o::ops.toList.drop (pc+1):=by
   have iF:pc<ops.toList.length:=(List.getElem?_eq_some_iff.1 q0).1;rw[List.drop_eq_getElem_cons iF,(List.getElem?_eq_some_iff.1 q0).2]
  show wpListIn _ _ _ _ _ _ _ _;rw[j_,wpListIn,if_pos (by simp[Region.wanted,q1])];refine⟨λ _ _=>trivial,?_⟩;subst hm;have hx2:(ap Bs Ts)[i]?=some (b,Blk.rows 1 m' g ty (0,0)):=by
   show (Bs++Ts.flatten)[i]?=_;rw[aaU (List.getElem?_eq_some_iff.1 hx).1];exact hx
  have Sw:w.heap[b]?=some (Blk.lit (bg 1 g m') ty (0,0)).den:=aT.holds (b,.rows 1 m' g ty (0,0)) (aaA _ (List.mem_of_getElem? hx2));have hrl:(bg 1 g m').length=m':=by rw[cy];omega
  have key:di P o aa w λ u w'=>u=vI (m':Int) /\ Rel (bm (ap Bs Ts) i (b,X)++F) w' /\ Below 0 w w':=by
   simp only[aa0] at q3;have e1:=(hF.eval q3.1).trans q4;have e2:=(hF.eval q3.2).trans q5;have iD:=run_copy_cells (P:=P) w t' tx' o.type T' b 0 m' f_ a' m' c2 vs q6 D_ (by simp[hl]) (hs w aT) (λ j hj=>by
     have Ud:j<(bg 1 g m').length:=by omega
     rw[Nat.zero_add,nB (v:=(bg 1 g m')[j]) Sw rfl rfl (by simp[Ud])];rfl) (λ j hj=>oE Sw rfl rfl) h1
   unfold di;have he:(execOp aa.eval o).run P w=.ok (.value (vI (m':Int))) (w.setCells b 0 vs):=by
    simp[execOp,q2,resolve,invoke,builtin,aa4,e1,e2,iD,goInt,hl]
   rw[he];refine⟨rfl,?_,fV b vs 0 w⟩;have hd:=nN vs 0 w _ Sw;rw[zN (by omega),<- hX] at hd;exact aT.upd hx2 hd (λ k hk=>nO hk vs 0 w)
  refine eF (by rw[q2];intro c hc;cases hc) key ?_;rintro u w' ⟨rfl,C_,Tv⟩;obtain⟨L',p1⟩:=cO hp (vI (m':Int));have hh:=hk.h hR;have Sh:Pr i X (dP N (vI (m':Int)) ⟨.ops ops pc,k,L,Bs,Ts⟩)=⟨.ops ops (pc+1),k,L',bm Bs i (b,X),Ts⟩:=by
   unfold dP;simp only[q0,p1];unfold Pr;simp only[hx]
  rw[Sh] at hh;refine hh _ w' (hF.put p1) ?_ (hB.trans Tv);have e3:bm (ap Bs Ts) i (b,X)=ap (bm Bs i (b,X)) Ts:=by
   show bm (Bs++Ts.flatten) i _=bm Bs i _++Ts.flatten;rw[iL,iL,List.set_append_left _ _ (List.getElem?_eq_some_iff.1 hx).1]
  rw[<- e3];exact C_
end
def slA(A:Option Addr)(l sz cap:Nat):Option Addr:=if cap=l then A else A.map (·.add (l*sz))
def Rk(P:Program)(o:Oper)(L:FL):Option (Option Addr × Nat × Nat × Int × Nat):=match o.guard,o.op with
 | none,.slice t x (some lo) none none=>match gh L x && gh L lo,P.underlying t,eZ L x,eZ L lo with
  | true,some (.slice elem),.slice a len cap,.int .i64 l=>match P.info? elem with
   | some inf=>some (a,len,cap,l,inf.size)
   | none=>none
  | _,_,_,_=>none
 | _,_=>none
def Q3(P:Program)(N:Nat)(oo:Option Oper)(s:Cfg):Option (Option Addr × Nat × Nat × Int × Nat):=match oo with
 | some o=>match Rk P o s.L,(eh N o.dst undef s.L).isSome with
  | some x,true=>some x
  | _,_=>none
 | none=>none
section
variable {r:Option Nat} {P:Program} {N:Nat} {D:List Deferred} {F:HL} {w0:World} {R:HL} {s:Cfg} {Q:Exit -> Act -> World -> Prop}
theorem wE{o:Oper}{L:FL}{A:Option Addr}{n cap sz:Nat}{l:Int}(h:Rk P o L=some (A,n,cap,l,sz)) :
  ∃t x lo elem inf,o.guard=none /\ o.op=.slice t x (some lo) none none /\ (gh L x && gh L lo)=true /\ P.underlying t=some (.slice elem) /\ eZ L x=.slice A n cap /\ eZ L lo=.int .i64 l /\ P.info? elem=some inf /\ inf.size=sz:=by
 unfold Rk at h;split at h
 case h_2=>cases h
 rename_i t x lo hg DO;split at h
 case h_2=>cases h
 rename_i elem a len cp l' h1 h2 h3 h4;split at h
 case h_2=>cases h
 rename_i inf h5;simp only[Option.some.injEq,Prod.mk.injEq] at h;obtain⟨e1,e2,e3,e4,e5⟩:=h;subst e1;subst e2;subst e3;subst e4;exact⟨t,x,lo,elem,inf,hg,DO,h1,h2,h3,h4,h5,e5⟩
theorem RN.slA{A:Option Addr}{n cap l sz:Nat}{li:Int}(hl:li=(l:Int))(h1:l <= n)(h2:n <= cap)(hk:RN r P N D F w0 R (dP N (.slice (slA A l sz cap) (n-l) (cap-l)) s) Q)
  (h:Q3 P N (gi s) s=some (A,n,cap,li,sz):=by kernel_rfl):RN r P N D F w0 R s Q:=by
 unfold Q3 at h;split at h
 case h_2=>cases h
 rename_i o q0;split at h
 case h_2=>cases h
 rename_i y hv hp;simp only[Option.some.injEq] at h;rw[h] at hv;clear h;obtain⟨t,x,lo,elem,inf,q1,q2,q3,q4,q5,q6,q7,q8⟩:=wE hv;refine⟨λ hR aa w hF aT hB=>?_⟩;obtain⟨c,k,L,Bs,Ts⟩:=s;unfold gi at q0;cases c with
 | code c=>cases q0
 | ex c=>cases q0
 | drw _ _=>cases q0
 | ops ops pc =>
  simp only at q0 q3 q5 q6 hp hF aT;have j_:ops.toList.drop pc=o::ops.toList.drop (pc+1):=by
   have iF:pc<ops.toList.length:=(List.getElem?_eq_some_iff.1 q0).1;rw[List.drop_eq_getElem_cons iF,(List.getElem?_eq_some_iff.1 q0).2]
  show wpListIn _ _ _ _ _ _ _ _;rw[j_,wpListIn,if_pos (by simp[Region.wanted,q1])];refine⟨λ _ _=>trivial,?_⟩;have key:di P o aa w λ u w'=>u=.slice (slA A l sz cap) (n-l) (cap-l) /\ Rel (ap Bs Ts++F) w' /\ Below 0 w w':=by
   simp only[aa0] at q3;have e1:=(hF.eval q3.1).trans q5;have e2:=(hF.eval q3.2).trans q6;have k1:=iO (P:=P) (ρ:=aa.eval) (lo:=some lo) (hi:=none) (l:=l) (h:=n) (len:=n) (cap:=cap) (by show Dc _ _ _ _;unfold Dc;simp only[e2];exact hl) rfl h1 h2 w;have k2:=λ W=>cZ q7 W;have k3:=λ W=>aG q4 W;unfold di;have he:(execOp aa.eval o).run P w=.ok (.value (.slice (slA A l sz cap) (n-l) (cap-l))) w:=by
    rw[show Option.map aa.eval none=none from rfl,show Option.map aa.eval (some lo)=some (aa.eval lo) from rfl] at k1;simp[execOp,q2,Instr.sliceAt,Instr.slice,e1,k3,Go.sizeOf,k2,aa4,k1,slA,q8]
   rw[he];exact⟨rfl,aT,Below.refl _ _⟩
  refine eF (by rw[q2];intro c hc;cases hc) key ?_;rintro u w' ⟨rfl,C_,Tv⟩;obtain⟨L',p1⟩:=cO hp (.slice (slA A l sz cap) (n-l) (cap-l));have hh:=hk.h hR;have Sh:dP N (.slice (slA A l sz cap) (n-l) (cap-l)) ⟨.ops ops pc,k,L,Bs,Ts⟩=⟨.ops ops (pc+1),k,L',Bs,Ts⟩:=by
   unfold dP;simp only[q0,p1]
  rw[Sh] at hh;exact hh _ w' (hF.put p1) C_ (hB.trans Tv)
end
section
variable {α:Type} {e:Enc α} {T:TypeId} {F:HL} {A:Option Addr} {n cap:Nat} {xs:List α} {Hl:HL}
theorem SlIs.drop(h:SlIs e T xs A cap Hl)(hF:∀x∈Hl,x∈F)(hn:xs.length=n){k:Nat}(hk:k <= n):RowL e T F (slA A k e.w cap) (n-k) (xs.drop k):=by
 subst hn;have hr:=h.toRowL hF;rcases h with ⟨rfl,rfl,rfl,rfl⟩|⟨b,o,full,rfl,rfl,h1,h2,h3⟩
 ·have:k=0:=by simpa using hk
  subst this;exact .zero _
 ·by_cases hc:cap=k
  ·have e1:xs.length-k=0:=by omega
   have e2:xs.drop k=[]:=aaY (by rw[aaR];omega);rw[e1,e2];exact .zero _
  ·have e1:slA (some ⟨b,o*e.w,none⟩) k e.w cap=some ⟨b,(o+k)*e.w,none⟩:=by
    unfold slA;rw[if_neg hc,Option.map_some,gI rfl];simp[sB,Nat.add_mul]
   rw[e1];refine .rows b (o+k) (o+cap) full (0,0) _ _ (hF _ (List.mem_singleton.2 rfl)) (by omega) (by simp) (λ i hi=>?_);have h4:((full.drop o).take xs.length)[k+i]?=xs[k+i]?:=by rw[h3]
   rw[aa7,if_pos (by omega),aa6] at h4;rw[aaI,aaI,aa6,<- h4,Nat.add_assoc]
end
def bs(x:Option Int)(n d:Nat):Prop:=match x with
 | some z=>z=(n:Int)
 | none=>n=d
def bO(L:FL)(x:Option Operand):Option (Option Int):=match x with
 | none=>some none
 | some v=>match gh L v,eZ L v with
  | true,.int .i64 z=>some (some z)
  | _,_=>none
theorem uP{L:FL}{x:Option Operand}{i:Option Int}{a:Act}(he:∀v,gh L v=true -> a.eval v=eZ L v)(h:bO L x=some i):x.map a.eval=i.map vI:=by
 unfold bO at h;split at h
 ·cases h;rfl
 ·rename_i v;split at h
  ·rename_i z h1 h2;cases h;show some _=some _;rw[he v h1,h2]
  ·cases h
theorem wF{P:Program}{lo hi mx:Option Int}{l h m len cap:Nat}(o1:bs lo l 0)(o2:bs hi h len)(o3:bs mx m cap)(hx:mx.isSome=true -> hi.isSome=true)(h1:l <= h)(h2:h <= m)(h3:m <= cap)(W:World) :
  (Instr.sliceBounds true len cap (lo.map vI) (hi.map vI) (mx.map vI)).run P W=.ok (l,h,m) W:=by
 have b1:∀ (y n:Nat) (c:BoundsCode),n <= y -> (Instr.sliceBound (vI (n:Int)) y c).run P W=.ok n W:=by
  intro y n c hny;simp[Instr.sliceBound,asIntOf,hny,go_sem]
 unfold Instr.sliceBounds;cases lo <;> cases hi <;> cases mx <;> simp only[bs] at o1 o2 o3
 all_goals subst o1 o2 o3
 ·simp[aa4]
 ·simp at hx
 ·simp[aa4,b1,h2]
 ·simp[aa4,b1,h2,h3]
 ·simp[aa4,b1,h1]
 ·simp at hx
 ·simp[aa4,b1,h1,h2]
 ·simp[aa4,b1,h1,h2,h3]
def Nm(P:Program)(o:Oper)(L:FL):Option (Option Addr × Nat × Nat × Option Int × Option Int × Option Int × Nat):=match o.guard,o.op with
 | none,.slice t x lo hi mx=>match gh L x,P.underlying t,eZ L x,bO L lo,bO L hi,bO L mx with
  | true,some (.slice elem),.slice a len cap,some l,some h,some m=>match P.info? elem with
   | some inf=>if m.isSome && h.isNone then none else some (a,len,cap,l,h,m,inf.size)
   | none=>none
  | _,_,_,_,_,_=>none
 | _,_=>none
def PE(P:Program)(N:Nat)(oo:Option Oper)(s:Cfg):Option (Option Addr × Nat × Nat × Option Int × Option Int × Option Int × Nat):=match oo with
 | some o=>match Nm P o s.L,(eh N o.dst undef s.L).isSome with
  | some x,true=>some x
  | _,_=>none
 | none=>none
abbrev zO(A:Option Addr)(l sz m:Nat):Option Addr:=slA A l sz m
section
variable {r:Option Nat} {P:Program} {N:Nat} {D:List Deferred} {F:HL} {w0:World} {R:HL} {s:Cfg} {Q:Exit -> Act -> World -> Prop}
theorem Dt{o:Oper}{L:FL}{A:Option Addr}{n cap sz:Nat}{li hi mi:Option Int}(h:Nm P o L=some (A,n,cap,li,hi,mi,sz)) :
  ∃t x lo h' mx elem inf,o.guard=none /\ o.op=.slice t x lo h' mx /\ gh L x=true /\ P.underlying t=some (.slice elem) /\ eZ L x=.slice A n cap /\ bO L lo=some li /\ bO L h'=some hi /\ bO L mx=some mi /\ P.info? elem=some inf /\ inf.size=sz /\ (mi.isSome=true -> hi.isSome=true):=by
 unfold Nm at h;split at h
 case h_2=>cases h
 rename_i t x lo h' mx hg DO;split at h
 case h_2=>cases h
 rename_i elem a len cp l1 l2 l3 h1 h2 h3 h4 h5 h6;split at h
 case h_2=>cases h
 rename_i inf h7;split at h
 case isTrue=>cases h
 rename_i h8;simp only[Option.some.injEq,Prod.mk.injEq] at h;obtain⟨e1,e2,e3,e4,e5,e6,e7⟩:=h;subst e1;subst e2;subst e3;subst e4;subst e5;subst e6;refine⟨t,x,lo,h',mx,elem,inf,hg,DO,h1,h2,h3,h4,h5,h6,h7,e7,λ g=>?_⟩;cases l2 with
 | some _=>rfl
 | none=>simp[g] at h8
theorem zP{A:Option Addr}{n cap l h m sz:Nat}{li hi mi:Option Int}(hl:bs li l 0)(hh:bs hi h n)(hm:bs mi m cap)(h1:l <= h)(h2:h <= m)(h3:m <= cap)(hk:RN r P N D F w0 R (dP N (.slice (zO A l sz m) (h-l) (m-l)) s) Q)
  (hc:PE P N (gi s) s=some (A,n,cap,li,hi,mi,sz):=by kernel_rfl):RN r P N D F w0 R s Q:=by
 unfold PE at hc;split at hc
 case h_2=>cases hc
 rename_i o q0;split at hc
 case h_2=>cases hc
 rename_i y hv hp;simp only[Option.some.injEq] at hc;rw[hc] at hv;clear hc;obtain⟨t,x,lo,h',mx,elem,inf,q1,q2,q3,q4,q5,q6,q6',abo,q7,q8,q9⟩:=Dt hv;refine⟨λ hR aa w hF aT hB=>?_⟩;obtain⟨c,k,L,Bs,Ts⟩:=s;unfold gi at q0;cases c with
 | code c=>cases q0
 | ex c=>cases q0
 | drw _ _=>cases q0
 | ops ops pc =>
  simp only at q0 q3 q5 q6 q6' abo hp hF aT;have j_:ops.toList.drop pc=o::ops.toList.drop (pc+1):=by
   have iF:pc<ops.toList.length:=(List.getElem?_eq_some_iff.1 q0).1;rw[List.drop_eq_getElem_cons iF,(List.getElem?_eq_some_iff.1 q0).2]
  show wpListIn _ _ _ _ _ _ _ _;rw[j_,wpListIn,if_pos (by simp[Region.wanted,q1])];refine⟨λ _ _=>trivial,?_⟩;have key:di P o aa w λ u w'=>u=.slice (zO A l sz m) (h-l) (m-l) /\ Rel (ap Bs Ts++F) w' /\ Below 0 w w':=by
   have e1:=(hF.eval q3).trans q5;have he:∀v,gh L v=true -> aa.eval v=eZ L v:=λ v hv=>hF.eval hv;have k1:=wF (P:=P) hl hh hm q9 h1 h2 h3 w;rw[<- uP he q6,<- uP he q6',<- uP he abo] at k1;have k2:=λ W=>cZ q7 W;have k3:=λ W=>aG q4 W;unfold di;have he:(execOp aa.eval o).run P w=.ok (.value (.slice (zO A l sz m) (h-l) (m-l))) w:=by
    simp[execOp,q2,Instr.sliceAt,Instr.slice,e1,k3,Go.sizeOf,k2,aa4,k1,zO,Go.Proofs.YtdppjkjbghbnjaaGreatDoor.slA,q8]
   rw[he];exact⟨rfl,aT,Below.refl _ _⟩
  refine eF (by rw[q2];intro c hc;cases hc) key ?_;rintro u w' ⟨rfl,C_,Tv⟩;obtain⟨L',p1⟩:=cO hp (.slice (zO A l sz m) (h-l) (m-l));have hh:=hk.h hR;have Sh:dP N (.slice (zO A l sz m) (h-l) (m-l)) ⟨.ops ops pc,k,L,Bs,Ts⟩=⟨.ops ops (pc+1),k,L',Bs,Ts⟩:=by
   unfold dP;simp only[q0,p1]
  rw[Sh] at hh;exact hh _ w' (hF.put p1) C_ (hB.trans Tv)
end
section
variable {α:Type} (e:Enc α)
def SlX(T:TypeId)(l:List α)(A:Option Addr)(cap:Nat)(Hl:HL):Prop :=
 (A=none /\ cap=0 /\ l=[] /\ Hl=[]) \/ ∃b o M full,A=some ⟨b,o*e.w,none⟩ /\ Hl=[(b,.rows e.w M (aL e full) T (0,0))] /\ full.length=M /\ o+cap <= M /\ l.length <= cap /\ (full.drop o).take l.length=l
theorem SlX.nil(T:TypeId):SlX e T [] none 0 []:=.inl ⟨rfl,rfl,rfl,rfl⟩
end
section
variable {α:Type} {e:Enc α} {T:TypeId} {l xs:List α} {A:Option Addr} {cap:Nat} {Hl F:HL}
theorem SlIs.x(h:SlIs e T l A cap Hl):SlX e T l A cap Hl:=by
 rcases h with h|⟨b,o,full,h1,h2,h3,h4,h5⟩
 ·exact .inl h
 ·exact .inr ⟨b,o,o+cap,full,h1,h2,h3,aaK _,h4,h5⟩
theorem SlX.len(h:SlX e T l A cap Hl):l.length <= cap:=by
 rcases h with ⟨_,rfl,rfl,_⟩|⟨b,o,M,full,h1,h2,h3,h4,h5,h6⟩
 ·simp
 ·exact h5
theorem SlX.toRowL(h:SlX e T l A cap Hl)(hF:∀x∈Hl,x∈F):RowL e T F A l.length l:=by
 rcases h with ⟨rfl,rfl,rfl,rfl⟩|⟨b,o,M,full,rfl,rfl,h1,hM,h2,h3⟩
 ·exact .zero _
 ·refine .rows b o M full (0,0) _ l (hF _ (List.mem_singleton.2 rfl)) (by omega) rfl (λ k hk=>?_);have h4:((full.drop o).take l.length)[k]?=l[k]?:=by rw[h3]
  rw[aa7,if_pos hk,aa6] at h4;rw[aaI,aaI,h4]
theorem SlX.cut(hs:SlX e T xs A cap Hl){k h m:Nat}(h1:k <= h)(h2:h <= xs.length)(h3:h <= m)(h4:m <= cap):SlX e T ((xs.take h).drop k) (zO A k e.w m) (m-k) Hl:=by
 rcases hs with ⟨rfl,rfl,rfl,rfl⟩|⟨b,o,M,full,rfl,rfl,g1,g2,g3,g4⟩
 ·refine .inl ⟨?_,by omega,by simp,rfl⟩;unfold zO slA;split <;> rfl
 ·have hl:((xs.take h).drop k).length=h-k:=by simp;omega
  by_cases hc:m=k
  ·refine .inr ⟨b,o,M,full,by unfold zO slA;rw[if_pos hc],rfl,g1,by omega,by rw[hl];omega,?_⟩;have:(xs.take h).drop k=[]:=aaY (by rw[hl];omega);rw[this];simp
  ·refine .inr ⟨b,o+k,M,full,?_,rfl,g1,by omega,by rw[hl];omega,?_⟩
   ·unfold zO slA;rw[if_neg hc,Option.map_some,gI rfl];simp[sB,Nat.add_mul]
   ·rw[hl];have:(xs.take h).drop k=((full.drop o).take xs.length |>.take h).drop k:=by rw[g4]
    rw[this,List.take_take,List.drop_take,List.drop_drop,Nat.min_eq_left h2]
end
section
variable {α:Type} {e:Enc α} {P:Program} {t tx ty T:TypeId} {inf:TypeInfo} {z:Value}
theorem zQ(ok:EncOk e P T inf z)(ht:P.underlying t=some (.slice T)){l:List α}{A:Option Addr}{cap:Nat}{Hl G:HL}{w:World}(h:SlX e T l A cap Hl)(hR:Rel (Hl++G) w)(src:List α)(x:Value)
  (hs:Src P inf.size tx x src.length (aq e src) w) (hb:l.length+src.length <= 100000000) :
  ∃A' f_ o_ w',(Builtin.append_ #[t,tx] ty #[.slice A l.length cap,x]).run P w=.ok (.slice A' (l.length+src.length) f_) w' /\ (SlX e T (l++src) A' f_ o_ /\ (bA A -> bA A')) /\ Rel (o_++G) w' /\ Below 0 w w':=by
 have YO:=ok.bytes;have TK:∀c,c<l.length+src.length -> Builtin.nextslicecap (l.length+src.length) c*inf.bytes <= 281474976710656:=λ c hc=>by
  have h1:=gX (l.length+src.length) c hc;have h2:Builtin.nextslicecap (l.length+src.length) c*inf.bytes <= (2*100000000+192)*1000:=Nat.mul_le_mul (by omega) YO;omega
 have grow:∀ (hg:cap<l.length+src.length) (hold:(Builtin.firstCells inf.size l.length (.slice A l.length cap)).run P w.drew=.ok (aq e l).toArray w.drew),∃A' f_ o_ w',(Builtin.append_ #[t,tx] ty #[.slice A l.length cap,x]).run P w=.ok (.slice A' (l.length+src.length) f_) w' /\ (SlX e T (l++src) A' f_ o_ /\ (bA A -> bA A')) /\ Rel (o_++G) w' /\ Below 0 w w':=by
  intro hg hold;have iD:=run_append_grow_src (P:=P) w t tx ty T inf z ht ok.info ok.zero A l.length cap (aq e l) hold x src.length (aq e src) hs hg (by omega) (TK cap hg);have UE:=grownCap_ge w (l.length+src.length) cap T;generalize grownCap w (l.length+src.length) cap T=nc at *;refine⟨_,nc,[(w.heap.size,.rows e.w (0+nc) (aL e (l++src++List.replicate (nc-(l.length+src.length)) e.dflt)) T (0,0))],_,iD,⟨.inr ⟨w.heap.size,0,0+nc,l++src++List.replicate (nc-(l.length+src.length)) e.dflt,by simp,rfl,by simp;omega,by omega,by simp;omega,by rw[List.drop_zero,List.take_append_of_le_length (by simp),List.take_of_length_le (by simp)]⟩,λ _=>rfl⟩,?_,?_⟩
  ·have TE:Rel G w:=hR.drop;have:=(Rel.cons (.rows e.w (0+nc) (aL e (l++src++List.replicate (nc-(l.length+src.length)) e.dflt)) T (0,0)) (o:=.cells ((aq e l++aq e src).toArray++Builtin.zeroCells z.cells (nc-(l.length+src.length))) T (0,0)) ?_ (TE.world (w':=w.drew) rfl))
   ·exact this
   ·show Obj.cells _ _ _=_;congr 1;apply Array.ext';show bg _ _ _=_;have hl:0+nc=(l++src++List.replicate (nc-(l.length+src.length)) e.dflt).length:=by simp;omega
    rw[hl,gK,aQ,aQ,Array.toList_append,lh ok]
  ·exact⟨rfl,rfl,rfl,by simp,λ k hk=>by omega⟩
 rcases h with ⟨rfl,rfl,rfl,rfl⟩|⟨b,o,M,full,rfl,rfl,Sx,hM,hle,hl⟩
 ·-- nil
  rcases Nat.eq_zero_or_pos src.length with h0|h0
  ·obtain rfl:src=[]:=aaY h0;refine⟨none,0,[],w,?_,⟨.inl ⟨rfl,rfl,by simp,rfl⟩,λ h=>h⟩,hR,Below.refl _ _⟩;have hc:(Builtin.firstCells inf.size 0 x).run P w=.ok #[] w:=hs.cells;rcases hs.kind with ⟨e',hk⟩|hk <;> simp[Builtin.append_,run_underlying ht,run_underlying hk,Go.sizeOf,typeInfo,ok.info,hs.len,hc]
  ·exact grow (by simp;omega) (by simp[aq];exact run_firstCells_none w.drew inf.size 0 0 0)
 ·have Sw:=hR.holds _ (aaA G (aaB));simp only[Blk.den] at Sw;have UU:(bg e.w (aL e full) M).length=M*e.w:=cy _ _ _;have H_:bg e.w (aL e full) M=aq e full:=by rw[<- Sx];exact gK e full
  by_cases z_:l.length+src.length <= cap
  ·-- there is room
   have D_:=ok.size;have YG:(aq e src).length=src.length*e.w:=aJ e src;have SW:o*e.w+l.length*inf.size+(aq e src).length <= M*e.w:=by
    rw[YG,D_,<- Nat.add_mul,<- Nat.add_mul];exact Nat.mul_le_mul_right _ (by omega)
   have K_:∀j,j<(aq e src).length -> (w.cell? ⟨b,o*e.w+l.length*inf.size+j,none⟩).isSome=true:=λ j hj=>by
    simp[World.cell?,Sw,UU];omega
   have WO:∀j,j<(aq e src).length -> w.frozen? ⟨b,o*e.w+l.length*inf.size+j,none⟩=false:=λ j hj=>by simp[World.frozen?,Sw]
   have iD:=run_append_room_src (P:=P) w t tx ty T inf ht ok.info b (o*e.w) l.length cap x src.length (aq e src) hs z_ K_ WO;have W4:=iU b (aq e src) (o*e.w+l.length*inf.size) w _ _ _ Sw;have UX:iT (bg e.w (aL e full) M) (o*e.w+l.length*inf.size) (aq e src)=aq e (full.take (o+l.length)++src++full.drop (o+l.length+src.length)):=by
    apply List.ext_getElem?;intro j;rw[kl _ _ _ (by rw[UU];exact SW),H_,aQ,aQ];have c1:(aq e (full.take (o+l.length))).length=(o+l.length)*e.w:=by rw[aJ,aaQ];congr 1;omega
    have c0:o*e.w+l.length*inf.size=(o+l.length)*e.w:=by rw[D_,<- Nat.add_mul]
    have Th:aq e full=aq e (full.take (o+l.length))++aq e (full.drop (o+l.length)):=by rw[<- aQ,aa8]
    have Uk:aq e (full.drop (o+l.length))=aq e ((full.drop (o+l.length)).take src.length)++aq e (full.drop (o+l.length+src.length)):=by
     rw[<- aQ,show o+l.length+src.length=(o+l.length)+src.length from rfl,<- List.drop_drop (i:=src.length) (j:=o+l.length),aa8]
    have c2:(aq e ((full.drop (o+l.length)).take src.length)).length=src.length*e.w:=by rw[aJ,aaQ,aaR];congr 1;omega
    rw[c0]
    by_cases h1:j<(o+l.length)*e.w
    ·rw[if_neg (by omega),Th,aaH,aaU (by omega),aaU (by omega)]
    ·by_cases h2:j<(o+l.length)*e.w+src.length*e.w
     ·rw[if_pos (by omega),aaH,aaV (by omega),aaU (by omega),c1]
     ·rw[if_neg (by omega),Th,Uk,aaH,aaV (by omega),aaV (by omega),aaV (by omega),aaV (by omega),c1,c2,YG]
   have WR:(full.take (o+l.length)++src++full.drop (o+l.length+src.length)).length=M:=by simp;omega
   refine⟨_,cap,[(b,.rows e.w M (aL e (full.take (o+l.length)++src++full.drop (o+l.length+src.length))) T (0,0))],_,iD,⟨.inr ⟨b,o,M,_,rfl,rfl,WR,hM,by simp;omega,?_⟩,λ h=>h⟩,?_,fV _ _ _ _⟩
   ·have h1:full.take (o+l.length)=full.take o++l:=by rw[List.take_add,hl]
    rw[h1,aaH,aaH,List.drop_append_of_le_length (by simp;omega),List.drop_eq_nil_of_le (by rw[aaQ];omega),List.nil_append,<- aaH];rw[List.take_append_of_le_length (by simp)];exact List.take_of_length_le (by simp)
   ·refine⟨?_,by have:=hR.nodup;simpa using this⟩;intro y hy;rcases List.mem_cons.1 hy with rfl|hy
    ·rw[W4,UX];simp only[Blk.den];rw[<- WR,gK]
    ·have AS:y.1≠b:=by
      have:=hR.nodup;simp only[List.cons_append,List.nil_append,List.map_cons,List.nodup_cons] at this;intro e1;exact this.1 (by rw[<- e1];exact List.mem_map_of_mem hy)
     rw[iV b _ _ _ _ AS];exact hR.holds y (aay _ hy)
  ·refine grow (by omega) ?_;refine run_firstCells_some w.drew inf.size l.length ⟨b,o*e.w,none⟩ l.length cap (aq e l) (by rw[aJ,ok.size]) ?_;intro j u hj;have U7:j<(aq e l).length:=(List.getElem?_eq_some_iff.1 hj).1;rw[aJ] at U7;have IN:aq e l=((aq e full).drop (o*e.w)).take (l.length*e.w):=by
    have h1:aq e full=aq e (full.take o)++(aq e l++aq e ((full.drop o).drop l.length)):=by
     rw[<- aQ,<- aQ];congr 1
     conv=>lhs;rw[<- aa8 o full]
     congr 1
     conv=>lhs;rw[<- aa8 l.length (full.drop o)]
     rw[hl]
    have c1:(aq e (full.take o)).length=o*e.w:=by rw[aJ,aaQ];congr 1;omega
    rw[h1,List.drop_append_of_le_length (by omega),List.drop_eq_nil_of_le (by omega),List.nil_append,List.take_append_of_le_length (by rw[aJ];exact aaK _),List.take_of_length_le (by rw[aJ];exact aaK _)]
   rw[Addr.add_lit];show World.cell? w ⟨b,o*e.w+j,none⟩=some u;simp only[World.cell?,Sw,H_];rw[IN,aa7,if_pos (by omega),aa6] at hj;simpa using hj
theorem qL{N:Nat}{D:List Deferred}{F:HL}{L:FL}{H:HL}(ok:EncOk e P T inf z){o:Oper}{a1 a2:Operand}(DO:o.op=.call { callee:=.builtin .append,args:=#[a1,a2],argTypes:=#[t,tx] })(ht:P.underlying t=some (.slice T))
  {l src:List α} {A:Option Addr} {cap n:Nat} {Hl G:HL} {x:Value} (hi:(gh L a1 && gh L a2)=true) (h1:eZ L a1=.slice A n cap) (hn:n=l.length) (h2:eZ L a2=x) (oF:(Hl++G).Perm H) (UA:SlX e T l A cap Hl)
  (hs:∀w,Rel (H++F) w -> Src P inf.size tx x src.length (aq e src) w) (hb:l.length+src.length <= 100000000) (a:Act) (hF:Fm N D L a) (w:World) (hR:Rel (H++F) w) :
  di P o a w λ u w'=>∃y:Option Addr × Nat × HL,(u=.slice y.1 (n+src.length) y.2.1 /\ (SlX e T (l++src) y.1 y.2.1 y.2.2 /\ (bA A -> bA y.1))) /\ Rel ((y.2.2++G)++F) w' /\ Below 0 w w':=by
 subst hn;simp only[aa0] at hi;have e1:=(hF.eval hi.1).trans h1;have e2:=(hF.eval hi.2).trans h2;have C_:Rel (Hl++(G++F)) w:=by rw[<- aaH];exact hR.perm (oF.append_right F)
 obtain⟨A',f_,o_,w',r1,r2,r3,r4⟩:=zQ (ty:=o.type) ok ht UA C_ src x (hs w hR) hb;unfold di;have iD:(execOp a.eval o).run P w=.ok (.value (.slice A' (l.length+src.length) f_)) w':=by
  simp[execOp,DO,resolve,invoke,builtin,aa4,e1,e2,r1]
 rw[iD];exact⟨(A',f_,o_),⟨rfl,r2⟩,by rw[aaH];exact r3,r4⟩
end
section
variable {r:Option Nat} {P:Program} {N:Nat} {D:List Deferred} {F:HL} {w0:World} {R:HL} {s:Cfg} {Q:Exit -> Act -> World -> Prop} {hards:List Nat} {Rd:HL}
variable {α:Type} {e:Enc α} {T:TypeId} {inf:TypeInfo} {z:Value}
theorem RN.appX(ok:EncOk e P T inf z)(l src:List α)(j p:Nat){A:Option Addr}{n cap:Nat}{Hl:HL}(hn:n=l.length)(UA:SlX e T l A cap Hl)(hb:l.length+src.length <= 100000000)
  (hk:∀ (A':Option Addr) (f_:Nat) (o_:HL),(SlX e T (l++src) A' f_ o_ /\ (bA A -> bA A')) -> RN r P N D F w0 R (Nj j o_ (dP N (.slice A' (n+src.length) f_) s)) Q)
  (h:Dm P N j p (gi s) s=some (A,n,cap,T,src.length,aq e src,Hl,Dn p s):=by kernel_rfl):RN r P N D F w0 R s Q:=by
 obtain⟨o,a1,a2,t,tx,e',c',b,ty,fz,q0,q1,q2,q3,q4,q5,q6,q7,q8,q9,IT,SQ⟩:=lO h;refine⟨λ hR a w hF aT hB=>?_⟩;obtain⟨c,k,L,B,Ts⟩:=s;unfold gi at q0;cases c with
 | code c=>cases q0
 | ex c=>cases q0
 | drw _ _=>cases q0
 | ops ops i =>
  simp only at q0 q3 q4 q5 q8 q9 IT SQ hF aT;have j_:ops.toList.drop i=o::ops.toList.drop (i+1):=by
   have iF:i<ops.toList.length:=(List.getElem?_eq_some_iff.1 q0).1;rw[List.drop_eq_getElem_cons iF,(List.getElem?_eq_some_iff.1 q0).2]
  show wpListIn _ _ _ _ _ _ _ _;rw[j_,wpListIn,if_pos (by simp[Region.wanted,q1])];refine⟨λ _ _=>trivial,?_⟩;have oF:=gt (A:=B) q9 IT;refine eF (by rw[q2];intro c hc;cases hc) (qL (x:=vS b 0 src.length c') (src:=src) (G:=B++((oth [j] Ts.length).filterMap (Ts[·]?)).flatten) ok q2 q6 q3 q4 hn q5 oF UA (λ w hw=>qh ok q7 p (by rw[aaU (List.getElem?_eq_some_iff.1 q8).1];exact q8) hw) hb a hF w aT) ?_;rintro u w' ⟨⟨A',f_,o_⟩,⟨rfl,Vf⟩,C_,Tv⟩;obtain⟨L',p1⟩:=cO SQ (.slice A' (n+src.length) f_);have hh:=(hk A' f_ o_ Vf).h hR;have Sh:dP N (.slice A' (n+src.length) f_) ⟨.ops ops i,k,L,B,Ts⟩=⟨.ops ops (i+1),k,L',B,Ts⟩:=by
   unfold dP;simp only[q0,p1]
  rw[Sh] at hh;refine hh _ w' (hF.put p1) (C_.perm (aaX F ?_)) (hB.trans Tv);show (B++(o_::(oth [j] Ts.length).filterMap (Ts[·]?)).flatten).Perm _;rw[aa2,<- aaH,<- aaH];exact aaX _ aaW
theorem RDO.appX{i:Nat}(ix:List Nat)(ok:EncOk e P T inf z)(l src:List α)(j p:Nat){A:Option Addr}{n cap:Nat}{Hl:HL}(hn:n=l.length)(UA:SlX e T l A cap Hl)(hb:l.length+src.length <= 100000000)
  (hk:∀ (A':Option Addr) (f_:Nat) (o_:HL),(SlX e T (l++src) A' f_ o_ /\ (bA A -> bA A')) -> RD r P N D F w0 R hards Rd (Nj j o_ (zJ N i (.slice A' (n+src.length) f_) s)) Q)
  (h:Dm P N j p (tf i s) s=some (A,n,cap,T,src.length,aq e src,Hl,Dn p s):=by kernel_rfl) (hx:(hards.contains i,zI ix s)=(true,Rd):=by kernel_rfl):RDO r P N D F w0 R hards Rd i s Q:=by
 obtain⟨o,a1,a2,t,tx,e',c',b,ty,fz,q0,q1,q2,q3,q4,q5,q6,q7,q8,q9,IT,SQ⟩:=lO h;obtain⟨c,k,L,B,Ts⟩:=s;unfold tf at q0;simp only[Prod.mk.injEq] at hx;cases c with
 | code c=>cases q0
 | ex c=>cases q0
 | ops _ _=>cases q0
 | drw ops li =>
  refine⟨λ hR=>?_⟩;simp only at q0 q3 q4 q5 q8 q9 IT SQ;have oF:=gt (A:=B) q9 IT;have Sh:∀v L',eh N o.dst v L=some L' -> zJ N i v ⟨.drw ops li,k,L,B,Ts⟩=⟨.drw ops (bm li i true),k,L',B,Ts⟩:=by
   intro v L' hl;unfold zJ;simp only[q0,hl]
  refine(nL (Q:=Q) (by simpa using q0) (σ:=Option Addr × Nat × HL) (λ u y=>u=.slice y.1 (n+src.length) y.2.1 /\ (SlX e T (l++src) y.1 y.2.1 y.2.2 /\ (bA A -> bA y.1))) (λ y=>ap B (y.2.2::(oth [j] Ts.length).filterMap (Ts[·]?))) SQ (λ a hF=>⟨by simp[Region.wanted,q1],λ w aT hB=>?_⟩) (λ y=>⟨λ hi=>?_,λ hi x hm=>aaA _ (s7 ix hx.2 x hm)⟩) ?_:RDO r P N D F w0 R hards Rd i ⟨.drw ops li,k,L,B,Ts⟩ Q).h hR
  ·refine fc (qL (x:=vS b 0 src.length c') (src:=src) (G:=B++((oth [j] Ts.length).filterMap (Ts[·]?)).flatten) ok q2 q6 q3 q4 hn q5 oF UA (λ w hw=>qh ok q7 p (by rw[aaU (List.getElem?_eq_some_iff.1 q8).1];exact q8) hw) hb a hF w aT) ?_;rintro u w' ⟨y,h3,C_,Tv⟩;refine⟨y,h3,C_.perm (aaX F ?_),Tv⟩;show (B++(y.2.2::(oth [j] Ts.length).filterMap (Ts[·]?)).flatten).Perm _;rw[aa2,<- aaH,<- aaH];exact aaX _ aaW
  ·exact absurd (List.contains_iff_mem.1 hx.1) hi
  ·rintro u ⟨A',f_,o_⟩ ⟨rfl,h3⟩ L' hl hs;have h1:=(hk A' f_ o_ h3).h hR;rw[Sh _ L' hl] at h1;exact h1 hs
end
abbrev bd(n:Int):Int:=i64.wrap n
structure V2 where (x y:Int)
structure Bx where (x0 y0 x1 y1:Int)
structure Mot where (px py vx vy inv:Int)
structure Con where (nx ny d:Int)
def aF(n lo hi:Int):Int:=if n<lo then lo else if n>hi then hi else n
def ln(a b:Int):Int:=if b=0 then 0 else if (a.tmod b>0 /\ b<0) \/ (a.tmod b<0 /\ b>0) then bd (bd (a.tdiv b)-1) else bd (a.tdiv b)
def gj(a b:Int):Int:=ln (bd (a*b)) 1024
def az(a b c:Int):Int:=ln (bd (a*b)) c
theorem cD(n:Int)(lo:Int)(hi:Int)  (F:HL):Sp Tryz.prog 167 #[vI n,vI lo,vI hi] [] F (λ u H'=>u=vI (aF n lo hi) /\ H'=[]):=by
 refine aau Tryz.func167 rfl mn (A:=[]) (Ts:=[]) rfl λ w0=>?_;refine ae 15 [] λ _=>aam (n<lo) 7 (λ h1=>?_) λ h1=>?_
 ·refine ae 7 [] λ _=>aaq [] [] [] (v:=vI lo) (H':=[]) ?_;exact⟨by unfold aF;simp[*],rfl⟩
 ·refine ae 9 [] λ _=>aam (n>hi) 12 (λ h2=>?_) λ h2=>?_
  ·refine ae 7 [] λ _=>aaq [] [] [] (v:=vI hi) (H':=[]) ?_;exact⟨by unfold aF;simp[*],rfl⟩
  ·refine ae 10 [] λ _=>aaq [] [] [] (v:=vI n) (H':=[]) ?_;exact⟨by unfold aF;simp[*],rfl⟩
theorem nP(a:Int)(b:Int)  (F:HL):Sp Tryz.prog 233 #[vI a,vI b] [] F (λ u H'=>u=vI (ln a b) /\ H'=[]):=by
 refine aau Tryz.func233 rfl mn (A:=[]) (Ts:=[]) rfl λ w0=>?_;refine ae 12 [] λ _=>aam (b=0) 8 (λ h1=>?_) λ h1=>?_
 ·refine ae 6 [] λ _=>aaq [] [] [] (v:=vI 0) (H':=[]) ?_;exact⟨by unfold ln;simp[*],rfl⟩
 ·refine ae 4 [] λ _=>aal [] []<|aA [] [0,1,3,4,2,5,6,7] [.dv,.dv] [b≠0,b≠0]<|aad<|ae 13 [] λ _=>aam (a.tmod b>0) 18 (λ h2=>?_) λ h2=>?_
  ·refine ae 6 [] λ _=>aam (b<0) 15 (λ h3=>?_) λ h3=>?_
   ·refine ae 23 [] λ _=>aaq [] [] [] (v:=vI (i64.wrap ((i64.wrap (a.tdiv b))-1))) (H':=[]) ?_;exact⟨by unfold ln;simp[*],rfl⟩
   ·refine ae 8 [] λ _=>aam (a.tmod b<0) 25 (λ h4=>?_) λ h4=>?_
    ·refine ae 6 [] λ _=>aam (b>0) 22 (λ h5=>?_) λ h5=>?_
     ·refine ae 22 [] λ _=>aaq [] [] [] (v:=vI (i64.wrap ((i64.wrap (a.tdiv b))-1))) (H':=[]) ?_;exact⟨by unfold ln;simp[*],rfl⟩
     ·refine ae 15 [] λ _=>aaq [] [] [] (v:=vI (i64.wrap (a.tdiv b))) (H':=[]) ?_;exact⟨by unfold ln;simp[*],rfl⟩
    ·refine ae 21 [] λ _=>aaq [] [] [] (v:=vI (i64.wrap (a.tdiv b))) (H':=[]) ?_;exact⟨by unfold ln;simp[*],rfl⟩
  ·refine ae 14 [] λ _=>aam (a.tmod b<0) 25 (λ h6=>?_) λ h6=>?_
   ·refine ae 6 [] λ _=>aam (b>0) 22 (λ h7=>?_) λ h7=>?_
    ·refine ae 22 [] λ _=>aaq [] [] [] (v:=vI (i64.wrap ((i64.wrap (a.tdiv b))-1))) (H':=[]) ?_;exact⟨by unfold ln;simp[*],rfl⟩
    ·refine ae 15 [] λ _=>aaq [] [] [] (v:=vI (i64.wrap (a.tdiv b))) (H':=[]) ?_;exact⟨by unfold ln;simp[*],rfl⟩
   ·refine ae 21 [] λ _=>aaq [] [] [] (v:=vI (i64.wrap (a.tdiv b))) (H':=[]) ?_;exact⟨by unfold ln;simp[*],rfl⟩
theorem nQ(a:Int)(b:Int)  (F:HL):Sp Tryz.prog 209 #[vI a,vI b] [] F (λ u H'=>u=vI (gj a b) /\ H'=[]):=by
 refine aau Tryz.func209 rfl mn (A:=[]) (Ts:=[]) rfl λ w0=>?_;refine ae 10 [] λ _=>aai (nP (i64.wrap (a*b)) 1024  _)<|ae 3 [] λ _=>?_;exact aaq [] [] [] ⟨rfl,rfl⟩
theorem gu(a:Int)(b:Int)(c:Int)  (F:HL):Sp Tryz.prog 242 #[vI a,vI b,vI c] [] F (λ u H'=>u=vI (az a b c) /\ H'=[]):=by
 refine aau Tryz.func242 rfl mn (A:=[]) (Ts:=[]) rfl λ w0=>?_;refine ae 11 [] λ _=>aai (nP (i64.wrap (a*b)) c  _)<|ae 3 [] λ _=>?_;exact aaq [] [] [] ⟨rfl,rfl⟩
end Go.Proofs.YtdppjkjbghbnjaaGreatDoor
namespace Go.Proofs
open IntKind
open Go.Shelf
def oJ:Go.Shelf.Ren:=⟨λ|125=>218|128=>251|129=>252|n=>n,λ|46=>272|3=>3|51=>352|53=>129|4=>4|5=>5|9=>9|n=>n,λ|n=>n⟩
theorem uQ:Go.Proofs.Lays.n125 Tryz.prog oJ:={
 mixed:=by kernel_rfl
 f125:=Tryz.func218.trans (congrArg some (by kernel_rfl))
 f128:=Tryz.func251.trans (congrArg some (by kernel_rfl))
 f129:=Tryz.func252.trans (congrArg some (by kernel_rfl))
 t3:=Tryz.underlying3
 a3:=Tryz.isAgg3
 z3:=Tryz.sizeOf3
 v3:=Tryz.zeroValue3
 t4:=Tryz.underlying4
 a4:=Tryz.isAgg4
 z4:=Tryz.sizeOf4
 v4:=Tryz.zeroValue4
 t5:=Tryz.underlying5
 a5:=Tryz.isAgg5
 z5:=Tryz.sizeOf5
 v5:=Tryz.zeroValue5
 t9:=Tryz.underlying9
 a9:=Tryz.isAgg9
 z9:=Tryz.sizeOf9
 v9:=Tryz.zeroValue9
 t46:=Tryz.underlying272
 a46:=Tryz.isAgg272
 z46:=Tryz.sizeOf272
 v46:=Tryz.zeroValue272
 t51:=Tryz.underlying352
 a51:=Tryz.isAgg352
 z51:=Tryz.sizeOf352
 v51:=Tryz.zeroValue352
 t53:=Tryz.underlying129
 a53:=Tryz.isAgg129
 z53:=Tryz.sizeOf129
 v53:=Tryz.zeroValue129 }
theorem Tryz.bits_Len(x:Int)(w:World)(h0:0 <= x)(h1:x <= 18446744073709551615) :
 Calls Tryz.prog 218 #[.int .u64 x] w λ e w'=>e=.returned (.int .i64 (Lib.bitLen x.toNat)) /\ w'=w:=Any.bits_Len uQ x w h0 h1
end Go.Proofs
namespace Go.Proofs.YtdppjkjbghbnjaaGreatDoor
open IntKind
open Go.RowKit
abbrev wG(n:Int):Int:=u64.wrap n
theorem uR(n:Int):0 <= wG n /\ wG n <= 18446744073709551615:=by
 show 0 <= u64.wrap n /\ u64.wrap n <= _;unfold IntKind.wrap;simp[IntKind.signed,IntKind.bits];omega
abbrev uS(n:Int):Int:=(Lib.bitLen (wG n).toNat:Int)
theorem wH(n:Int)(F:HL):Sp Tryz.prog 218 #[.int .u64 (wG n)] [] F (λ u H'=>u=vI (uS n) /\ H'=[]) :=
 wy (λ w=>Tryz.bits_Len _ w (uR n).1 (uR n).2) F
theorem Ky(n:Int):0 <= uS n /\ uS n <= 64:=by
 have h:=uR n;have:=Lib.bitLen_le (wG n).toNat 64 (by omega) (by omega);unfold uS;omega
def Kz(r:Int)(k:Nat):Int:=bd ((BitVec.ofInt 64 r ||| BitVec.ofInt 64 (bd (1*2 ^ min k 64))).toNat:Int)
def uT(n:Int):Nat -> Int -> Int
 | 0,r=>r
 | k+1,r=>uT n k (if Kz r k>bd (n.tdiv (Kz r k)) then r else Kz r k)
def Du(n:Int):Int:=bd (bd ((bd (uS n+1)).tdiv 2)-1)
def uU(n:Int):Int:=if n <= 0 then 0 else uT n (Du n+1).toNat 0
theorem Rl(v:BitVec 64)(h:bd (v.toNat:Int)=0):v=0#64:=by
 apply BitVec.eq_of_toNat_eq;have h2:v.toNat<18446744073709551616:=v.isLt;generalize v.toNat=m at *;rw[bd,IntKind.wrap_i64] at h;simp;omega
theorem Nn(r:Int){k:Nat}(hk:k<40):Kz r k≠0:=by
 intro h;have hb:BitVec.ofInt 64 (bd (1*2 ^ min k 64))≠0#64:=by
  have:∀k<40,BitVec.ofInt 64 (bd (1*2 ^ min k 64))≠0#64:=by decide
  exact this k hk
 have h1:=Rl _ h;clear h;generalize BitVec.ofInt 64 (bd (1*2 ^ min k 64))=b at *;generalize BitVec.ofInt 64 r=a at *;apply hb;have:(a ||| b) &&& b=b:=by
  apply BitVec.eq_of_getLsbD_eq;intro i hi;simp;intro h;exact .inr h
 rw[h1] at this;simpa using this.symm
theorem BS(n:Int):-1 <= Du n /\ Du n <= 31:=by
 have:=Ky n;unfold Du bd;generalize uS n=l at *;have e1:i64.wrap (l+1)=l+1:=by rw[IntKind.wrap_i64];omega
 rw[e1,Int.tdiv_eq_ediv_of_nonneg (by omega)];have e2:i64.wrap ((l+1) / 2)=(l+1) / 2:=by rw[IntKind.wrap_i64];omega
 rw[e2,IntKind.wrap_i64];omega
theorem dh{x:Int}(h:-9223372036854775808 <= x /\ x <= 9223372036854775807):bd x=x:=by
 rw[bd,IntKind.wrap_i64];omega
theorem wI{n r s:Int}{k:Int}(h0:¬ s<0)(h:uT n (s+1).toNat r=k):uT n s.toNat (if Kz r s.toNat>bd (n.tdiv (Kz r s.toNat)) then r else Kz r s.toNat)=k:=by
 have e:(s+1).toNat=s.toNat+1:=by omega
 rw[e,uT] at h;exact h
theorem Dv(n:Int)  (F:HL):Sp Tryz.prog 313 #[vI n] [] F (λ u H'=>u=vI (uU n) /\ H'=[]):=by
 refine aau Tryz.func313 rfl mn (A:=[]) (Ts:=[]) rfl λ w0=>?_;refine ae 13 [] λ _=>aam (n <= 0) 7 (λ h1=>?_) λ h1=>?_
 ·refine ae 6 [] λ _=>aaq [] [] [] (v:=vI 0) (H':=[]) ?_;refine⟨?_,rfl⟩;unfold uU
  first|(simp[*];done)|(have e:(s+1).toNat=0:=by omega);(rw[e,uT] at YQ);(simp[*])
 ·refine ae 16 [] λ _=>aai (wH n _)<|ae 7 [] λ _=>aao (σ:=Int × Int) (λ ⟨r,s⟩=>⟨[(0,vI n),(3,vI r),(4,vI s)],[],[],-1 <= s /\ s <= 31 /\ uT n (s+1).toNat r=uT n (Du n+1).toNat 0,(s+1).toNat⟩) (0,Du n) [] [] (⟨(BS n).1,(BS n).2,rfl⟩) ?_;rintro⟨r,s⟩ ⟨hI0,hI1,YQ⟩ Sm;have hw:s >= 0 -> i64.wrap (s-1)=s-1:=λ _=>dh (by omega);have IN:(s-1+1).toNat=s.toNat:=by rw[Int.sub_add_cancel]
  refine ae 7 [] λ _=>aam (s >= 0) 15 (λ h4=>?_) λ h4=>?_
  ·refine qH 24 [.dv,.gen,.dv] (λ _=>[i64.wrap ((BitVec.ofInt 64 r ||| BitVec.ofInt 64 (i64.wrap (1*2 ^ min (s).toNat 64))).toNat:Int)≠0,0 <= s]) (λ _=>(ac (Nn r (by omega)) (ac (by omega) an))) λ _=>aam (i64.wrap ((BitVec.ofInt 64 r ||| BitVec.ofInt 64 (i64.wrap (1*2 ^ min (s).toNat 64))).toNat:Int)>i64.wrap (n.tdiv (i64.wrap ((BitVec.ofInt 64 r ||| BitVec.ofInt 64 (i64.wrap (1*2 ^ min (s).toNat 64))).toNat:Int)))) 26 (λ h5=>?_) λ h5=>?_
   ·refine ae 10 [] λ _=>?_;refine Sm (r,i64.wrap (s-1)) [] [] ?_
    try dsimp only
    have hN:=wI (by omega) YQ;rw[hw (by assumption),IN];refine⟨⟨by omega,by omega,?_⟩,by omega⟩;simpa only[Kz, *,if_true,if_false] using hN
   ·refine ae 14 [] λ _=>?_;refine Sm (i64.wrap ((BitVec.ofInt 64 r ||| BitVec.ofInt 64 (i64.wrap (1*2 ^ min (s).toNat 64))).toNat:Int),i64.wrap (s-1)) [] [] ?_
    try dsimp only
    have hN:=wI (by omega) YQ;rw[hw (by assumption),IN];refine⟨⟨by omega,by omega,?_⟩,by omega⟩;simpa only[Kz, *,if_true,if_false] using hN
  ·refine ae 12 [] λ _=>aaq [] [] [] (v:=vI r) (H':=[]) ?_;refine⟨?_,rfl⟩;unfold uU
   first|(simp[*];done)|(have e:(s+1).toNat=0:=by omega);(rw[e,uT] at YQ);(simp[*])
def kY:Enc (Int × Int):=⟨2,λ p k=>match k with|0=>vI p.1|_=>vI p.2,(0,0)⟩
noncomputable def PF:TypeInfo:=match Tryz.prog.info? 188 with | some i=>i | none=>⟨.bool,"",0,0,false,0,0,none,false,#[]⟩
noncomputable def PG:Value:=match PF.zero with|some z=>z|none=>.bool false
theorem Mu:EncOk kY Tryz.prog 188 PF PG where
 info:=by kernel_rfl
 zero:=by kernel_rfl
 size:=by kernel_rfl
 zsize:=by kernel_rfl
 zcell:=λ k hk=>by
  have h:∀k<2,PG.cells[k]?=some (kY.cell kY.dflt k):=by intro k hk;(iterate 2 (rcases k with _|k;· kernel_rfl));omega
  exact h k hk
 one:=λ x k=>by unfold kY;dsimp only;split <;> rfl
 bytes:=aaJ (by kernel_rfl)
def qm:Nat -> List Int -> List (Int × Int)
 | _,[]=>[]
 | a,k::l=>((a:Int),k)::qm (a+1) l
theorem ko:∀ (a:Nat) (ms:List Int),(qm a ms).length=ms.length
 | _,[]=>rfl
 | a,k::l=>by rw[qm,aaS,aaS,ko]
theorem BT:∀ (a:Nat) (ms:List Int) (i:Nat),i<ms.length -> (qm a ms)[i]?=some (((a+i:Nat):Int),ms.getD i 0)
 | _,[],i,h=>absurd h (Nat.not_lt_zero _)
 | a,k::l,0,_=>by rw[qm];rfl
 | a,k::l,i+1,h=>by
  rw[qm,List.getElem?_cons_succ,BT (a+1) l i (by simpa using h),show a+1+i=a+(i+1) by omega];rfl
theorem wJ(k:Int):∀ (a:Nat) (ms:List Int),qm a (ms++[k])=qm a ms++[(((a+ms.length:Nat):Int),k)]
 | a,[]=>rfl
 | a,x::l=>by
  show _::qm (a+1) (l++[k])=_;rw[wJ k (a+1) l,aaS,show a+1+l.length=a+(l.length+1) by omega];rfl
theorem wK:∀ (a:Nat) (ms:List Int) (n:Nat),(qm a ms).take n=qm a (ms.take n)
 | _,[],n=>by cases n <;> rfl
 | _,_::_,0=>rfl
 | a,k::l,n+1=>by
  show _::(qm (a+1) l).take n=_::qm (a+1) (l.take n);rw[wK]
theorem uV{a:Nat}{ms:List Int}{A:Option Addr}{cap:Nat}{Hl:HL}(h:SlX kY 188 (qm a ms) A cap Hl)(hn:ms≠[]):∃b o M full,A=some ⟨b,o*2,none⟩ /\ Hl=[(b,.rows 2 M (aL kY full) 188 (0,0))] /\ full.length=M /\ o+cap <= M /\ ms.length <= cap /\ (full.drop o).take ms.length=qm a ms /\ ∀k,k<ms.length -> full.getD (o+k) kY.dflt=(((a+k:Nat):Int),ms.getD k 0):=by
 rcases h with ⟨_,_,h,_⟩|⟨b,o,M,full,h1,h2,h3,h4,h5,h6⟩
 ·exfalso;have:=congrArg List.length h;rw[ko] at this;exact hn (aaY this)
 ·rw[ko] at h5 h6;refine⟨b,o,M,full,h1,h2,h3,h4,h5,h6,λ k hk=>?_⟩;have e:=congrArg (·[k]?) h6;simp only[aa7,if_pos hk,aa6,BT a ms k hk] at e;rw[aaI,e];rfl
theorem F8(rb mb b o M n cap w:Nat)(full:List (Int × Int))(F:HL)(hm:(rb,.lit [vP mb 0,vI (w:Int),vS b (o*2) n cap] 169 (0,0))∈F)(hq:(b,.rows 2 M (aL kY full) 188 (0,0))∈F)(hn:1 <= n)(ho:o+n <= M)(Xw:n <= 100000000):Sp Tryz.prog 100 #[vP rb 0] [] F (λ u H'=>u=vI (full.getD o kY.dflt).1 /\ H'=[]):=by
 refine aau Tryz.func100 rfl (mc hm (mc hq mn)) (A:=[]) (Ts:=[]) rfl λ w0=>?_;refine ae 16 [.ro 0] λ _=>aam ((n:Int)=0) 8 (λ h1=>?_) λ h1=>?_
 ·(exfalso;omega)
 ·refine ai 15 [.ro 0,.ix 0,.rorow 1 (o+0) 0] [(o*2+0*2)=(o+0)*2+0 /\ (o+0)<M,0=((0:Nat):Int) /\ 0<n] λ _=>?_;exact aaq [] [] [] ⟨rfl,rfl⟩
theorem wL(rb mb b o M n cap w:Nat)(full:List (Int × Int))(F:HL)(hm:(rb,.lit [vP mb 0,vI (w:Int),vS b (o*2) n cap] 169 (0,0))∈F)(hq:(b,.rows 2 M (aL kY full) 188 (0,0))∈F)(hn:1 <= n)(ho:o+n <= M)(Xw:n <= 100000000):Sp Tryz.prog 76 #[vP rb 0] [] F (λ u H'=>u=vI (full.getD (o+(n-1)) kY.dflt).1 /\ H'=[]):=by
 refine aau Tryz.func76 rfl (mc hm (mc hq mn)) (A:=[]) (Ts:=[]) rfl λ w0=>?_;refine ae 16 [.ro 0] λ _=>aam ((n:Int)=0) 8 (λ h1=>?_) λ h1=>?_
 ·(exfalso;omega)
 ·refine ae 4 [] λ _=>aal [] []<|aA [] [0,4,1,5,2,6,3,7,8,9,10,11,12,13] [.ro 0,.ro 0,.nw,.ix (n-1),.rorow 1 (o+(n-1)) 0] [(o*2+(n-1)*2)=(o+(n-1))*2+0 /\ (o+(n-1))<M,(n:Int)-1=(((n-1):Nat):Int) /\ (n-1)<n,bn ((n:Int)-1)]<|aad<|ae 1 [] λ _=>?_;exact aaq [] [] [] ⟨rfl,rfl⟩
theorem F9(rb mb b o cap w:Nat)(F:HL)(hm:(rb,.lit [vP mb 0,vI (w:Int),vS b (o*2) 0 cap] 169 (0,0))∈F):Sp Tryz.prog 76 #[vP rb 0] [] F (λ u H'=>u=vI (-1) /\ H'=[]):=by
 refine aau Tryz.func76 rfl (mc hm mn) (A:=[]) (Ts:=[]) rfl λ w0=>?_;refine ae 22 [.ro 0] λ _=>?_;exact aaq [] [] [] ⟨rfl,rfl⟩
theorem Ga(rb mb w:Nat)(F:HL)(hm:(rb,.lit [vP mb 0,vI (w:Int),.slice none 0 0] 169 (0,0))∈F):Sp Tryz.prog 76 #[vP rb 0] [] F (λ u H'=>u=vI (-1) /\ H'=[]):=by
 refine aau Tryz.func76 rfl (mc hm mn) (A:=[]) (Ts:=[]) rfl λ w0=>?_;refine ae 22 [.ro 0] λ _=>?_;exact aaq [] [] [] ⟨rfl,rfl⟩
theorem KA(x1 x2 t:Int)(tq:Nat)(F:HL)(hm:(tq,.lit [vI t] 3 (0,0))∈F):Sp Tryz.prog 102 #[.agg #[vI x1,vI x2],vP tq 0] [] F (λ u H'=>u=.bool (decide (x1=t)) /\ H'=[]):=by
 refine aau Tryz.func102 rfl (mc hm mn) (A:=[]) (Ts:=[]) rfl λ w0=>?_;refine ae 15 [.own 0,.ro 0] λ n1=>?_;exact aaq [] [] [] ⟨rfl,rfl⟩
theorem KB(b o M n cap tq k0:Nat)(t:Int)(full:List (Int × Int))(F:HL)(hm:(tq,.lit [vI t] 3 (0,0))∈F)(hq:(b,.rows 2 M (aL kY full) 188 (0,0))∈F)(ho:o+n <= M)(Xw:n <= 100000000)(hk:k0<n)(ht:(full.getD (o+k0) kY.dflt).1=t)(iF:∀k,k<k0 -> ¬ (full.getD (o+k) kY.dflt).1=t):Sp Tryz.prog 101 #[vS b (o*2) n cap,.func (.func 102) #[] #[vP tq 0]] [] F (λ u H'=>u=vI (k0:Int) /\ H'=[]):=by
 refine aau Tryz.func101 rfl (mc hm (mc hq mn)) (A:=[]) (Ts:=[]) rfl λ w0=>?_;refine ae 14 [] λ _=>aao (σ:=Nat) (λ i_=>⟨[(0,vS b (o*2) n cap),(1,.func (.func 102) #[] #[vP tq 0]),(7,vI (n:Int)),(8,vI (i_:Int))],[],[],i_ <= k0,k0-i_⟩) 0 [] [] (aaL _) ?_;rintro i_ XA S_;refine ae 6 [] λ _=>aam ((i_:Int)<(n:Int)) 9 (λ h3=>?_) λ h3=>?_
 ·refine ai 18 [.ix i_,.rorow 1 (o+i_) 0,.rorow 1 (o+i_) 1] [((o*2+i_*2)+1)=(o+i_)*2+1 /\ (o+i_)<M,(o*2+i_*2)=(o+i_)*2+0 /\ (o+i_)<M,(i_:Int)=((i_:Nat):Int) /\ i_<n] λ _=>aai (KA ((full.getD (o+i_) kY.dflt).1) ((full.getD (o+i_) kY.dflt).2) t tq _ (au hm))<|ae 2 [] λ _=>il ((decide ((full.getD (o+i_) kY.dflt).1=t))) 16 (λ h4=>?_) λ h4=>?_
  ·refine ae 7 [] λ _=>aaq [] [] [] (v:=vI (i_:Int)) (H':=[]) ?_;have e_:i_=k0:=by
    rcases aaZ i_ k0 with h_|h_
    ·exact absurd (by simpa using h4) (iF i_ h_)
    ·omega
   exact⟨by rw[e_],rfl⟩
  ·refine ai 8 [.nw] [bn ((i_:Int)+1)] λ _=>?_;refine S_ (i_+1) [] [] ?_
   try dsimp only
   have e_:i_≠k0:=by rintro rfl;exact absurd ht (by simpa using h4)
   exact⟨by omega,by omega⟩
 ·(exfalso;omega)
def BU(a:Nat)(ms:List Int):Int:=if ms=[] then -1 else ((a+ms.length:Nat):Int)-1
theorem BV{rb mb w a:Nat}{ms:List Int}{A:Option Addr}{cap n:Nat}{Hl F:HL}(hs:SlX kY 188 (qm a ms) A cap Hl)(hF:∀x∈Hl,x∈F)(hn:n=ms.length)(Xw:n <= 100000000)(hm:(rb,.lit [vP mb 0,vI (w:Int),.slice A n cap] 169 (0,0))∈F):Sp Tryz.prog 76 #[vP rb 0] [] F (λ u H'=>u=vI (BU a ms) /\ H'=[]):=by
 subst hn;unfold BU;split
 ·next e =>
  subst e;rcases hs with ⟨rfl,rfl,_,_⟩|⟨b,o,M,full,rfl,rfl,h3,h4,h5,h6⟩
  ·exact Ga rb mb w F hm
  ·exact F9 rb mb b o cap w F hm
 ·next e =>
  have hp:1 <= ms.length:=by
   cases ms with
   | nil=>exact absurd rfl e
   | cons _ _=>simp
  obtain⟨b,o,M,full,rfl,rfl,h3,h4,h5,h6,h7⟩:=uV hs e;have h:=wL rb mb b o M ms.length cap w full F hm (hF _ (List.mem_singleton.2 rfl)) hp (by omega) Xw;rw[h7 (ms.length-1) (by omega)] at h;rw[show ((a+ms.length:Nat):Int)-1=((a+(ms.length-1):Nat):Int) by omega];exact h
def aD(a b:V2):V2:=⟨bd (a.x+b.x),bd (a.y+b.y)⟩
def dH(a b:V2):V2:=⟨bd (a.x-b.x),bd (a.y-b.y)⟩
def Dw(a:V2):V2:=dH ⟨0,0⟩ a
def al(a:V2)(f:Int):V2:=⟨gj a.x f,gj a.y f⟩
def eS(a:V2)(n d:Int):V2:=⟨az a.x n d,az a.y n d⟩
def Gb(n:Int):Int:=n.fdiv 1024
def dj(a b:V2):Int:=Gb (bd (bd (a.x*b.x)+bd (a.y*b.y)))
def vlen(a:V2):Int:=uU (bd (bd (a.x*a.x)+bd (a.y*a.y)))
def tg(a:V2):Prop:=a.x=0 /\ a.y=0
instance (a:V2):Decidable (tg a):=inferInstanceAs (Decidable (_ /\ _))
def kP(a:V2):V2:=if tg a then a else eS a 1024 (vlen a)
theorem wM(m n:Int)(F:HL):Sp Tryz.prog 207 #[vI m,vI n] [] F (λ u H'=>u=vI (bd (m+n)) /\ H'=[]):=by
 refine aau Tryz.func207 rfl mn (A:=[]) (Ts:=[]) rfl λ w0=>?_;refine ae 13 [] λ _=>?_;exact aaq [] [] [] ⟨rfl,rfl⟩
theorem wN(m n:Int)(F:HL):Sp Tryz.prog 273 #[vI m,vI n] [] F (λ u H'=>u=vI (bd (m-n)) /\ H'=[]):=by
 refine aau Tryz.func273 rfl mn (A:=[]) (Ts:=[]) rfl λ w0=>?_;refine ae 13 [] λ _=>?_;exact aaq [] [] [] ⟨rfl,rfl⟩
theorem pF(m n d:Int)(b:Nat)(F:HL)(hb:(b,.lit [vI d] 3 (0,0))∈F):Sp Tryz.prog 250 #[vI m,vI n,vP b 0] [] F (λ u H'=>u=vI (az m n d) /\ H'=[]):=by
 refine aau Tryz.func250 rfl (mc hb mn) (A:=[]) (Ts:=[]) rfl λ w0=>?_;refine ae 10 [.ro 0] λ _=>aai (gu m n d  _)<|ae 3 [] λ _=>?_;exact aaq [] [] [] ⟨rfl,rfl⟩
theorem Gc(a b:V2)  (F:HL):Sp Tryz.prog 206 #[.agg #[vI a.x,vI a.y],.agg #[vI b.x,vI b.y],.func (.func 207) #[] #[]] [] F (λ u H'=>u=.agg #[vI ((aD a b).x),vI ((aD a b).y)] /\ H'=[]):=by
 refine aau Tryz.func206 rfl mn (A:=[]) (Ts:=[]) rfl λ w0=>?_;refine ae 8 [] λ n1=>aal [13] []<|ag [] [0,1,3,6,7,9,2,4,8,10] [.own 2,.own 1,.own 2,.own 1]<|aac [] 5 (λ X_=>(wM a.x b.x _))<|aac [] 11 (λ X_=>(wM a.y b.y _))<|ag [] [12] []<|aae 13 (aag [] (aab 2) λ _=>?_);refine aad<|ae 1 [] λ _=>?_;exact aaq (aab 2) [] [] ⟨rfl,rfl⟩
theorem Ge(a b:V2)  (F:HL):Sp Tryz.prog 206 #[.agg #[vI a.x,vI a.y],.agg #[vI b.x,vI b.y],.func (.func 273) #[] #[]] [] F (λ u H'=>u=.agg #[vI ((dH a b).x),vI ((dH a b).y)] /\ H'=[]):=by
 refine aau Tryz.func206 rfl mn (A:=[]) (Ts:=[]) rfl λ w0=>?_;refine ae 8 [] λ n1=>aal [13] []<|ag [] [0,1,3,6,7,9,2,4,8,10] [.own 2,.own 1,.own 2,.own 1]<|aac [] 5 (λ X_=>(wN a.x b.x _))<|aac [] 11 (λ X_=>(wN a.y b.y _))<|ag [] [12] []<|aae 13 (aag [] (aab 2) λ _=>?_);refine aad<|ae 1 [] λ _=>?_;exact aaq (aab 2) [] [] ⟨rfl,rfl⟩
theorem Gf(a b:V2)  (F:HL):Sp Tryz.prog 206 #[.agg #[vI a.x,vI a.y],.agg #[vI b.x,vI b.y],.func (.func 209) #[] #[]] [] F (λ u H'=>u=.agg #[vI ((⟨gj a.x b.x,gj a.y b.y⟩:V2).x),vI ((⟨gj a.x b.x,gj a.y b.y⟩:V2).y)] /\ H'=[]):=by
 refine aau Tryz.func206 rfl mn (A:=[]) (Ts:=[]) rfl λ w0=>?_;refine ae 8 [] λ n1=>aal [13] []<|ag [] [0,1,3,6,7,9,2,4,8,10] [.own 2,.own 1,.own 2,.own 1]<|aac [] 5 (λ X_=>(nQ a.x b.x  _))<|aac [] 11 (λ X_=>(nQ a.y b.y  _))<|ag [] [12] []<|aae 13 (aag [] (aab 2) λ _=>?_);refine aad<|ae 1 [] λ _=>?_;exact aaq (aab 2) [] [] ⟨rfl,rfl⟩
theorem wO(a b:V2)(d:Int)(q:Nat)(F:HL)(hq:(q,.lit [vI d] 3 (0,0))∈F):Sp Tryz.prog 206 #[.agg #[vI a.x,vI a.y],.agg #[vI b.x,vI b.y],.func (.func 250) #[] #[vP q 0]] [] F (λ u H'=>u=.agg #[vI ((⟨az a.x b.x d,az a.y b.y d⟩:V2).x),vI ((⟨az a.x b.x d,az a.y b.y d⟩:V2).y)] /\ H'=[]):=by
 refine aau Tryz.func206 rfl (mc hq mn) (A:=[]) (Ts:=[]) rfl λ w0=>?_;refine ae 8 [] λ n1=>aal [13] []<|ag [] [0,1,3,6,7,9,2,4,8,10] [.own 2,.own 1,.own 2,.own 1]<|aac [] 5 (λ X_=>(pF a.x b.x d q _ (zH hq)))<|aac [] 11 (λ X_=>(pF a.y b.y d q _ (zH hq)))<|ag [] [12] []<|aae 13 (aag [] (aab 2) λ _=>?_);refine aad<|ae 1 [] λ _=>?_;exact aaq (aab 2) [] [] ⟨rfl,rfl⟩
theorem pG(n:Int)(F:HL):Sp Tryz.prog 208 #[vI n] [] F (λ u H'=>u=.agg #[vI n,vI n] /\ H'=[]):=by
 refine aau Tryz.func208 rfl mn (A:=[]) (Ts:=[]) rfl λ w0=>?_;refine ae 13 (aab 2) λ n1=>?_;exact aaq (aab 2) [] [] ⟨rfl,rfl⟩
theorem ez(a:V2)(b:V2)  (F:HL):Sp Tryz.prog 165 #[.agg #[vI a.x,vI a.y],.agg #[vI b.x,vI b.y]] [] F (λ u H'=>u=.agg #[vI ((aD a b).x),vI ((aD a b).y)] /\ H'=[]):=by
 refine aau Tryz.func165 rfl mn (A:=[]) (Ts:=[]) rfl λ w0=>?_;refine ae 11 [.own 2,.own 2,.own 1,.own 1] λ n1=>aai (Gc a b _)<|ae 3 (aab 2) λ _=>?_;exact aaq (aab 2) [] [] ⟨rfl,rfl⟩
theorem iY(a:V2)(b:V2)  (F:HL):Sp Tryz.prog 239 #[.agg #[vI a.x,vI a.y],.agg #[vI b.x,vI b.y]] [] F (λ u H'=>u=.agg #[vI ((dH a b).x),vI ((dH a b).y)] /\ H'=[]):=by
 refine aau Tryz.func239 rfl mn (A:=[]) (Ts:=[]) rfl λ w0=>?_;refine ae 11 [.own 2,.own 2,.own 1,.own 1] λ n1=>aai (Ge a b _)<|ae 3 (aab 2) λ _=>?_;exact aaq (aab 2) [] [] ⟨rfl,rfl⟩
theorem Gg(a:V2)  (F:HL):Sp Tryz.prog 240 #[.agg #[vI a.x,vI a.y]] [] F (λ u H'=>u=.agg #[vI ((Dw a).x),vI ((Dw a).y)] /\ H'=[]):=by
 refine aau Tryz.func240 rfl mn (A:=[]) (Ts:=[]) rfl λ w0=>?_;refine ae 10 [.own 1,.own 1] λ n1=>aai (iY (⟨0,0⟩:V2) a  _)<|ae 3 (aab 2) λ _=>?_;exact aaq (aab 2) [] [] ⟨rfl,rfl⟩
theorem ff(a:V2)(f:Int)  (F:HL):Sp Tryz.prog 166 #[.agg #[vI a.x,vI a.y],vI f] [] F (λ u H'=>u=.agg #[vI ((al a f).x),vI ((al a f).y)] /\ H'=[]):=by
 refine aau Tryz.func166 rfl mn (A:=[]) (Ts:=[]) rfl λ w0=>?_;refine ae 7 [] λ n1=>aal [4] []<|ag [] [0,1] [.own 1,.own 1]<|aac [] 2 (λ X_=>(pG f _))<|aac [] 3 (λ X_=>(Gf a (⟨f,f⟩:V2) _))<|aae 4 (aag [] (aab 2) λ _=>?_);refine aad<|ae 1 [] λ _=>?_;exact aaq (aab 2) [] [] ⟨rfl,rfl⟩
theorem lq(a:V2)(n:Int)(d:Int)  (F:HL):Sp Tryz.prog 214 #[.agg #[vI a.x,vI a.y],vI n,vI d] [] F (λ u H'=>u=.agg #[vI ((eS a n d).x),vI ((eS a n d).y)] /\ H'=[]):=by
 refine aau Tryz.func214 rfl mn (A:=[]) (Ts:=[]) rfl λ w0=>?_;refine ae 8 [] λ n1=>aal [5] []<|ag [] [0,1,3] [.own 2,.own 2]<|aac [] 2 (λ X_=>(pG n _))<|aac [] 4 (λ X_=>(wO a (⟨n,n⟩:V2) d (n1+1) _ (fd 1)))<|aae 5 (aag [] (aab 2) λ _=>?_);refine aad<|ae 1 [] λ _=>?_;exact aaq (aab 2) [] [] ⟨rfl,rfl⟩
theorem Dx(n:Int)  (F:HL):Sp Tryz.prog 272 #[vI n] [] F (λ u H'=>u=vI (Gb n) /\ H'=[]):=by
 refine aau Tryz.func272 rfl mn (A:=[]) (Ts:=[]) rfl λ w0=>?_;refine ae 12 [] λ _=>?_;exact aaq [] [] [] ⟨rfl,rfl⟩
theorem nR(a:V2)(b:V2)  (F:HL):Sp Tryz.prog 238 #[.agg #[vI a.x,vI a.y],.agg #[vI b.x,vI b.y]] [] F (λ u H'=>u=vI (dj a b) /\ H'=[]):=by
 refine aau Tryz.func238 rfl mn (A:=[]) (Ts:=[]) rfl λ w0=>?_;refine ae 20 [.own 1,.own 0,.own 1,.own 0] λ n1=>aai (Dx (i64.wrap ((i64.wrap (a.x*b.x))+(i64.wrap (a.y*b.y))))  _)<|ae 3 [] λ _=>?_;exact aaq [] [] [] ⟨rfl,rfl⟩
theorem Gh(a:V2)  (F:HL):Sp Tryz.prog 311 #[.agg #[vI a.x,vI a.y]] [] F (λ u H'=>u=vI (vlen a) /\ H'=[]):=by
 refine aau Tryz.func311 rfl mn (A:=[]) (Ts:=[]) rfl λ w0=>?_;refine ae 19 (aab 4) λ n1=>aai (Dv (i64.wrap ((i64.wrap (a.x*a.x))+(i64.wrap (a.y*a.y))))  _)<|ae 3 [] λ _=>?_;exact aaq [] [] [] ⟨rfl,rfl⟩
theorem Dy(a:V2)  (F:HL):Sp Tryz.prog 306 #[.agg #[vI a.x,vI a.y]] [] F (λ u H'=>u=.agg #[vI ((kP a).x),vI ((kP a).y)] /\ H'=[]):=by
 refine aau Tryz.func306 rfl mn (A:=[]) (Ts:=[]) rfl λ w0=>?_;refine ae 14 [.own 1,.own 1,.sq] λ n1=>il ((decide (a.x=0) && (decide (a.y=0) && true))) 5 (λ h2=>?_) λ h2=>?_
 ·refine ae 7 [.own 1,.own 1,.own 0,.own 0] λ _=>aaq (aab 2) [] [] (v:=.agg #[vI a.x,vI a.y]) (H':=[]) ?_;refine⟨?_,rfl⟩;unfold kP
  first|rw[if_pos (by simpa [tg] using h2)]|rw[if_neg (by simpa [tg] using h2)]
 ·refine ae 4 [] λ _=>aal [4] []<|ag [] [0,1] [.own 1,.own 1,.own 1,.own 1]<|aac [] 2 (λ X_=>(Gh a  _))<|aac [] 3 (λ X_=>(lq a 1024 (vlen a)  _))<|aae 4 (aag [] (aab 2) λ _=>?_);refine aad<|ae 1 [] λ _=>aaq (aab 2) [] [] (v:=.agg #[vI ((eS a 1024 (vlen a)).x),vI ((eS a 1024 (vlen a)).y)]) (H':=[]) ?_;refine⟨?_,rfl⟩;unfold kP
  first|rw[if_pos (by simpa [tg] using h2)]|rw[if_neg (by simpa [tg] using h2)]
end Go.Proofs.YtdppjkjbghbnjaaGreatDoor
