import Derived.Test.YtjokannbjmndfaaGreatDoorZ05
set_option linter.all false
set_option maxHeartbeats 4000000
set_option maxRecDepth 100000
namespace Go.Proofs.YtjokannbjmndfaaGreatDoor
open Go.RowKit
variable {A:Option Addr} {H H' Hl:HL} {R':Value->HL->Prop} {Ts:List HL} {args:Array Value} {b:Blk} {cap i m n:Nat} {fn:Func} {g:FuncId} {σ τ:Type} (ds:List Nat) (hints:List Hint) (j:Nat) (Ob:List Prop) (ip jp:List Nat)
section
variable {r:Option Nat} {P:Program} {N:Nat} {D:List Deferred} {F:HL} {w0:World} {R:HL} {s:Cfg} {Q:Exit->Act->World->Prop} {hards:List Nat} {Rd:HL}
def QR(i:Nat)(b:Blk)(s:Cfg):Cfg:=match s with
 | ⟨c,k,L,A,Ts⟩=>⟨c,k,L,match A[i]? with|some x=>aS A i (x.1,b)|none=>A,Ts⟩
theorem o9{A:HL}{x:Nat×Blk}(h:A[i]?=some x)(e:x.2.den=b.den):d5 A=d5 (aS A i (x.1,b)):=by
 rw[nK];unfold d5;rw[List.map_set];have h1:(A.map λ x=>(x.1,x.2.den))[i]?=some (x.1,b.den):=by rw[abo,h];simp[e]
 have iN:i<(A.map λ x=>(x.1,x.2.den)).length:=(bt.1 h1).1;have h2:(x.1,b.den)=(A.map λ x=>(x.1,x.2.den))[i]:=((bt.1 h1).2).symm;show _=(A.map λ x=>(x.1,x.2.den)).set i (x.1,b.den);rw[h2,List.set_getElem_self]
def QS(i:Nat)(s:Cfg):Option Obj:=(s.A[i]?).map (·.2.den)
theorem RN.dn(i:Nat)(b:Blk)(hk:RN r P N D F w0 R (QR i b s) Q)(h:QS i s=some b.den:=by kernel_rfl):RN r P N D F w0 R s Q:=by
 refine⟨λ hR a w h1 h2 h3=>hk.h hR a w h1 ?_ h3⟩;obtain⟨c,k,L,A,Ts⟩:=s;unfold QS at h;simp only[acL] at h;obtain⟨x,hx,e⟩:=h;unfold QR;simp only[hx];exact h2.denA (o9 hx e)
theorem RD.dn(i:Nat)(b:Blk)(hk:RD r P N D F w0 R hards Rd (QR i b s) Q)(h:QS i s=some b.den:=by kernel_rfl):RD r P N D F w0 R hards Rd s Q:=by
 refine⟨λ hR hs=>?_⟩;obtain⟨c,k,L,A,Ts⟩:=s;unfold QS at h;simp only[acL] at h;obtain⟨x,hx,e⟩:=h;have h1:=hk.h hR hs;unfold QR at h1;simp only[hx] at h1;exact TD.den _ (o9 hx e) h1
def ptC(jp:List Nat)(s:Cfg):Cfg:=match s with
 | ⟨c,k,L,A,Ts⟩=>⟨c,k,L,A,jp.filterMap (Ts[·]?)⟩
theorem uh(hk:RN r P N D F w0 R (ptC jp s) Q)(h:jp.isPerm (List.range s.Ts.length)=true:=by kernel_rfl):RN r P N D F w0 R s Q :=
 ⟨λ hR a w h1 h2 h3=>hk.h hR a w h1 (h2.perm ((GZ jp h rfl).append_right F)) h3⟩
def otC(j:Nat)(x:Nat×Blk)(s:Cfg):Cfg:=match s with
 | ⟨c,k,L,A,Ts⟩=>⟨c,k,L,x::A,(oth [j] Ts.length).filterMap (Ts[·]?)⟩
theorem rz{x:Nat×Blk}(hk:RN r P N D F w0 R (otC j x s) Q)(h:(s.Ts[j]?,([j]++oth [j] s.Ts.length).isPerm (List.range s.Ts.length))=(some [x],true):=by kernel_rfl):RN r P N D F w0 R s Q:=by
 simp only[df] at h;exact⟨λ hR a w h1 h2 h3=>hk.h hR a w h1 (h2.perm ((AG h.2 h.1 rfl).append_right F)) h3⟩
def SO(j:Nat)(B:HL)(Bs:List HL)(s:Cfg):Cfg:=match s with
 | ⟨c,k,L,A,Ts⟩=>⟨c,k,L,B++A,Bs++(oth [j] Ts.length).filterMap (Ts[·]?)⟩
theorem OL{B:HL}{Bs:List HL}{T:HL}(e:T=ap B Bs)(hk:RN r P N D F w0 R (SO j B Bs s) Q)(h:(s.Ts[j]?,([j]++oth [j] s.Ts.length).isPerm (List.range s.Ts.length))=(some T,true):=by kernel_rfl):RN r P N D F w0 R s Q:=by
 simp only[df] at h;refine⟨λ hR a w h1 h2 h3=>hk.h hR a w h1 (h2.perm (aa5 F ?_)) h3⟩;have h3:=(fh s.Ts h.2).flatten;simp only[ac3,h.1,adj,abB,WF,abe] at h3;show ((B++s.A)++(Bs++(oth [j] s.Ts.length).filterMap (s.Ts[·]?)).flatten).Perm (s.A++s.Ts.flatten);refine List.Perm.trans ?_ (ab0 _ h3);subst e;rw[acT];show ((B++s.A)++(Bs.flatten++_)).Perm (s.A++((B++Bs.flatten)++_));rw[aaF,aaF];refine afk _ _ _ |>.trans<|List.Perm.refl _
def jtC(s:Cfg):Cfg:=match s with
 | ⟨c,k,L,A,T1::T2::Ts⟩=>⟨c,k,L,A,(T1++T2)::Ts⟩
 |s=>s
theorem xE(hk:RN r P N D F w0 R (jtC s) Q):RN r P N D F w0 R s Q:=by
 refine⟨λ hR a w h1 h2 h3=>?_⟩;have h4:=hk.h hR a w;unfold jtC at h4;split at h4
 ·exact h4 h1 (by simpa [ap] using h2) h3
 ·exact h4 h1 h2 h3
def ntC(s:Cfg):Cfg:=match s with
 | ⟨c,k,L,A,Ts⟩=>⟨c,k,L,A,[]::Ts⟩
theorem RN.nt(hk:RN r P N D F w0 R (ntC s) Q):RN r P N D F w0 R s Q:=⟨λ hR a w h1 h2 h3=>hk.h hR a w h1 h2 h3⟩
theorem RD.nt(hk:RD r P N D F w0 R hards Rd (ntC s) Q):RD r P N D F w0 R hards Rd s Q:=by
 obtain⟨c,k,L,A,Ts⟩:=s;exact⟨λ hR hs=>hk.h hR hs⟩
def svC(t:Nat)(v:Value)(s:Cfg):Cfg:=match s with
 | ⟨c,k,L,A,Ts⟩=>⟨c,k,(t,v)::L,A,Ts⟩
theorem aw(t:Nat){u v:Value}(e:u=v)(hk:RN r P N D F w0 R (svC t v s) Q)(h:s.L.lookup t=some u:=by kernel_rfl):RN r P N D F w0 R s Q:=by
 subst e;exact⟨λ hR a w h1 h2 h3=>hk.h hR a w (h1.fix h) h2 h3⟩
def bvC(i:Nat)(b:Blk)(s:Cfg):Cfg:=match s with
 | ⟨c,k,L,A,Ts⟩=>⟨c,k,L,match A[i]? with|some x=>aS A i (x.1,b)|none=>A,Ts⟩
theorem RN.bv(i:Nat){b':Blk}(e:b=b')(hk:RN r P N D F w0 R (bvC i b' s) Q)(h:(s.A[i]?).map (·.2)=some b:=by kernel_rfl):RN r P N D F w0 R s Q:=by
 subst e;refine⟨λ hR a w h1 h2 h3=>hk.h hR a w h1 ?_ h3⟩;obtain⟨c,k,L,A,Ts⟩:=s;simp only[acL] at h;obtain⟨x,hx,e⟩:=h;unfold bvC;simp only[hx];refine h2.denA (o9 hx (by rw[e]))
variable {α:Type} {e:Enc α} {T:TypeId} {inf:TypeInfo} {z:Value}
def LE(P:Program)(o:Oper)(L:FL):Option (Option Addr×Nat×Nat×TypeId×Option Addr×Nat×Nat×TypeId):=match o.guard,o.op with
 |none,.call c=>match c.callee,c.args.toList,c.argTypes.toList with
  | .builtin .append,[a1,a2],[t,tx]=>match dw L a1 && dw L a2,cN L a1,cN L a2 with
   |true,.slice A n cap,.slice B m c'=>match P.underlying t,P.underlying tx with
    |some (.slice T),some (.slice _)=>some (A,n,cap,T,B,m,c',tx)
    |_,_=>none
   |_,_,_=>none
  |_,_,_=>none
 |_,_=>none
theorem ui{o:Oper}{L:FL}{B:Option Addr}{c':Nat}{tx:TypeId}(h:LE P o L=some (A,n,cap,T,B,m,c',tx)) :
  ∃a1 a2 t e',o.guard=none/\o.op=.call { callee:=.builtin .append,args:=#[a1,a2],argTypes:=#[t,tx] } /\(dw L a1 && dw L a2)=true/\cN L a1=.slice A n cap/\cN L a2=.slice B m c'/\P.underlying t=some (.slice T)/\P.underlying tx=some (.slice e'):=by
 unfold LE at h;split at h
 case h_2=>cases h
 rename_i c hg C_;split at h
 case h_2=>cases h
 rename_i a1 a2 t tx' h1 h2 h3;split at h
 case h_2=>cases h
 rename_i A' n' iD B' m' c2 h4 h5 h6;split at h
 case h_2=>cases h
 rename_i T' e' h7 h8;simp only[de,df] at h;obtain⟨e1,e2,e3,e4,e5,e6,e7,e8⟩:=h;subst e1;subst e2;subst e3;subst e4;subst e5;subst e6;subst e7;subst e8;refine⟨a1,a2,t,e',hg,?_,h4,h5,h6,h7,h8⟩;obtain⟨cal,args,ats⟩:=c;simp only at h1 h2 h3;subst h1;have:args=#[a1,a2]:=by cases args;simp_all
 subst this;have:ats=#[t,tx']:=by cases ats;simp_all
 subst this;exact C_
def eU(s:Cfg):Option Oper:=match s.c with
 | .ops ops i=>ops.toList[i]?
 |_=>none
def eL(i:Nat)(s:Cfg):Option Oper:=match s.c with
 | .drw ops _=>ops.toList[i]?
 |_=>none
def OM(p:Nat)(s:Cfg):Option (Nat×List Value):=match s.A[p]? with
 |some (b,.lit cs _ _)=>some (b,cs)
 |_=>none
def Ek(P:Program)(N j p:Nat)(oo:Option Oper)(s:Cfg):Option (Option Addr×Nat×Nat×TypeId×Nat×List Value×HL×Nat):=match oo with
 |some o=>match LE P o s.L,OM p s,s.Ts[j]?,([j]++oth [j] s.Ts.length).isPerm (List.range s.Ts.length) && (cD N o.dst undef s.L).isSome with
  |some (A,n,cap,T,some ⟨b,0,none⟩,m,_,_),some (_,cs),some Hl,true=>some (A,n,cap,T,m,cs,Hl,b)
  |_,_,_,_=>none
 |none=>none
def El(p:Nat)(s:Cfg):Nat:=match OM p s with
 |some (b,_)=>b
 |none=>0
theorem lW{j p:Nat}{oo:Option Oper}{cs:List Value}(h:Ek P N j p oo s=some (A,n,cap,T,m,cs,Hl,El p s)) :
  ∃o a1 a2 t tx e' c' b ty fz,oo=some o/\o.guard=none/\o.op=.call { callee:=.builtin .append,args:=#[a1,a2],argTypes:=#[t,tx] } /\(dw s.L a1 && dw s.L a2)=true/\cN s.L a1=.slice A n cap/\cN s.L a2=.slice (some ⟨b,0,none⟩) m c'/\P.underlying t=some (.slice T)/\P.underlying tx=some (.slice e')/\
   s.A[p]?=some (b,.lit cs ty fz)/\s.Ts[j]?=some Hl/\([j]++oth [j] s.Ts.length).isPerm (List.range s.Ts.length)=true/\(cD N o.dst undef s.L).isSome=true:=by
 unfold Ek at h;split at h
 case h_2=>cases h
 rename_i o;split at h
 case h_2=>cases h
 rename_i A' n' iD T' b m' c' tx b' cs' z_ h1 h2 h3 h4;simp only[de,df] at h;obtain⟨e1,e2,e3,e4,e5,e6,e7,e8⟩:=h;subst e1;subst e2;subst e3;subst e4;subst e5;subst e6;subst e7;obtain⟨a1,a2,t,e',q1,q2,q3,q4,q5,q6,q7⟩:=ui h1;rw[abc] at h4;unfold El at e8;rw[h2] at e8;simp only at e8;subst e8;unfold OM at h2;split at h2
 case h_2=>cases h2
 rename_i b2 cs2 ty fz h5;simp only[de,df] at h2;obtain⟨e1,e2⟩:=h2;subst e1;subst e2;exact⟨o,a1,a2,t,tx,e',c',_,ty,fz,rfl,q1,q2,q3,q4,q5,q6,q7,h5,h3,h4.1,h4.2⟩
def ON(j:Nat)(Hl:HL)(s:Cfg):Cfg:=match s with
 | ⟨c,k,L,A,Ts⟩=>⟨c,k,L,A,Hl::(oth [j] Ts.length).filterMap (Ts[·]?)⟩
theorem gi{A:HL}{j:Nat}(hj:Ts[j]?=some Hl)(hp:([j]++oth [j] Ts.length).isPerm (List.range Ts.length)=true):(Hl++(A++((oth [j] Ts.length).filterMap (Ts[·]?)).flatten)).Perm (ap A Ts):=by
 have h3:=fh Ts hp;simp only[ac3,hj,adj] at h3;have h4:=h3.flatten;simp only[abB,WF,abe] at h4;refine List.Perm.trans ?_ (ab0 A h4);rw[<- aaF,<- aaF];exact aa5 _ aa4
theorem gY(ok:EncOk e P T inf z){l:List α} (src:List α)(j p:Nat)(hn:n=l.length)(Wp:SlIs e T l A cap Hl)(hb:l.length+src.length<=100000000)
  (hk:∀ (A':Option Addr) (iD:Nat) (z_:HL),(SlIs e T (l++src) A' iD z_/\(bn A->bn A'))->RN r P N D F w0 R (ON j z_ (cR N (.slice A' (n+src.length) iD) s)) Q)
  (h:Ek P N j p (eU s) s=some (A,n,cap,T,src.length,ak e src,Hl,El p s):=by kernel_rfl):RN r P N D F w0 R s Q:=by
 obtain⟨o,a1,a2,t,tx,e',c',b,ty,fz,q0,q1,q2,q3,q4,q5,q6,q7,q8,q9,I_,Ud⟩:=lW h;refine⟨λ hR a w hF aT hB=>?_⟩;obtain⟨c,k,L,B,Ts⟩:=s;unfold eU at q0;cases c with
 |code c=>cases q0
 |ex c=>cases q0
 |drw _ _=>cases q0
 |ops ops i=>
  simp only at q0 q3 q4 q5 q8 q9 I_ Ud hF aT;have oR:ops.toList.drop i=o::ops.toList.drop (i+1):=by
   have iN:i<ops.toList.length:=(bt.1 q0).1;rw[eB iN,(bt.1 q0).2]
  show wpListIn _ _ _ _ _ _ _ _;rw[oR,wpListIn,if_pos (by simp[Region.wanted,q1])];refine⟨λ _ _=>trivial,?_⟩;have o_:=gi (A:=B) q9 I_;refine dM (by rw[q2];intro c hc;cases hc) (o7 (x:=vS b 0 src.length c') (src:=src) (G:=B++((oth [j] Ts.length).filterMap (Ts[·]?)).flatten) ok q2 q6 q3 q4 hn q5 o_ Wp (λ w hw=>qK ok q7 p (by rw[aa2 (bt.1 q8).1];exact q8) hw) hb hF aT) ?_;rintro u w' ⟨⟨A',iD,z_⟩,⟨rfl,Xc⟩,IF,VY⟩;obtain⟨L',p1⟩:=cr Ud (.slice A' (n+src.length) iD);have hh:=(hk A' iD z_ Xc).h hR;have Of:cR N (.slice A' (n+src.length) iD) ⟨.ops ops i,k,L,B,Ts⟩=⟨.ops ops (i+1),k,L',B,Ts⟩:=by
   unfold cR;simp only[q0,p1]
  rw[Of] at hh;refine hh _ w' (hF.put p1) (IF.perm (aa5 F ?_)) (hB.trans VY);show (B++(z_::(oth [j] Ts.length).filterMap (Ts[·]?)).flatten).Perm _;rw[abe,<- aaF,<- aaF];exact aa5 _ aa4
theorem vO(ix:List Nat)(ok:EncOk e P T inf z){l:List α} (src:List α)(j p:Nat)(hn:n=l.length)(Wp:SlIs e T l A cap Hl)(hb:l.length+src.length<=100000000)
  (hk:∀ (A':Option Addr) (iD:Nat) (z_:HL),(SlIs e T (l++src) A' iD z_/\(bn A->bn A'))->RD r P N D F w0 R hards Rd (ON j z_ (mH N i (.slice A' (n+src.length) iD) s)) Q)
  (h:Ek P N j p (eL i s) s=some (A,n,cap,T,src.length,ak e src,Hl,El p s):=by kernel_rfl) (hx:(hards.contains i,AR ix s)=(true,Rd):=by kernel_rfl):RDO r P N D F w0 R hards Rd i s Q:=by
 obtain⟨o,a1,a2,t,tx,e',c',b,ty,fz,q0,q1,q2,q3,q4,q5,q6,q7,q8,q9,I_,Ud⟩:=lW h;obtain⟨c,k,L,B,Ts⟩:=s;unfold eL at q0;simp only[df] at hx;cases c with
 |code c=>cases q0
 |ex c=>cases q0
 |ops _ _=>cases q0
 |drw ops li=>
  refine⟨λ hR=>?_⟩;simp only at q0 q3 q4 q5 q8 q9 I_ Ud;have o_:=gi (A:=B) q9 I_;have Of:∀v L',cD N o.dst v L=some L'->mH N i v ⟨.drw ops li,k,L,B,Ts⟩=⟨.drw ops (aS li i true),k,L',B,Ts⟩:=by
   intro v L' hl;unfold mH;simp only[q0,hl]
  refine(iZ (Q:=Q) (by simpa using q0) (σ:=Option Addr×Nat×HL) (λ u y=>u=.slice y.1 (n+src.length) y.2.1/\(SlIs e T (l++src) y.1 y.2.1 y.2.2/\(bn A->bn y.1))) (λ y=>ap B (y.2.2::(oth [j] Ts.length).filterMap (Ts[·]?))) Ud (λ a hF=>⟨by simp[Region.wanted,q1],λ w aT hB=>?_⟩) (λ y=>⟨λ hi=>?_,λ hi x hm=>aaB _ (rt ix hx.2 x hm)⟩) ?_:RDO r P N D F w0 R hards Rd i ⟨.drw ops li,k,L,B,Ts⟩ Q).h hR
  ·refine eT (o7 (x:=vS b 0 src.length c') (src:=src) (G:=B++((oth [j] Ts.length).filterMap (Ts[·]?)).flatten) ok q2 q6 q3 q4 hn q5 o_ Wp (λ w hw=>qK ok q7 p (by rw[aa2 (bt.1 q8).1];exact q8) hw) hb hF aT) ?_;rintro u w' ⟨y,h3,IF,VY⟩;refine⟨y,h3,IF.perm (aa5 F ?_),VY⟩;show (B++(y.2.2::(oth [j] Ts.length).filterMap (Ts[·]?)).flatten).Perm _;rw[abe,<- aaF,<- aaF];exact aa5 _ aa4
  ·exact absurd (abI.1 hx.1) hi
  ·rintro u ⟨A',iD,z_⟩ ⟨rfl,h3⟩ L' hl hs;have h1:=(hk A' iD z_ h3).h hR;rw[Of _ L' hl] at h1;exact h1 hs
end
open Go.Shelf
section
variable {r:Option Nat} {P:Program} {N:Nat} {D:List Deferred} {F:HL} {w0:World} {R:HL} {s:Cfg} {Q:Exit->Act->World->Prop}
def G7(P:Program)(n0 N:Nat)(R:HL)(s:Cfg):Option (Option Tmp×Nat×Array Value×List Prop):=match s.c with
 | .ops ops i=>AJ P n0 N ops.toList i s.L (ap s.A s.Ts) R []
 |_=>none
def G8(N j:Nat)(s:Cfg)(x:Option (Option Tmp×Nat×Array Value×List Prop)):Option (Nat×Array Value×List Prop×HL):=match x with
 |some (dst,l,args,Ob)=>match s.Ts[j]?,([j]++oth [j] s.Ts.length).isPerm (List.range s.Ts.length) && (cD N dst undef s.L).isSome with
  |some T,true=>some (l,args,Ob,T)
  |_,_=>none
 |none=>none
theorem RN.yield(j:Nat){l:Nat}{args:Array Value}{T:HL}{Rv:Bool->HL->Prop}(hc:YL P l args T (ap s.A (fA [j] s)++F) Rv)(hk:∀b H',Rv b H'->RN r P N D F w0 R (ON j H' (cR N (.bool b) s)) Q)
  (h:∀n0,G8 N j s (G7 P n0 N R s)=some (l,args,[],T):=by intro n0;kernel_rfl):RN r P N D F w0 R s Q:=by
 refine⟨λ hR a w hF aT hB=>?_⟩;have h':=h w.heap.size;obtain⟨cc,k,L,A,Ts⟩:=s;cases cc with
 |code c=>simp[G7,G8] at h'
 |ex c=>simp[G7,G8] at h'
 |drw _ _=>simp[G7,G8] at h'
 |ops ops i=>
 simp only[G7] at h' hF aT;generalize hx:AJ P w.heap.size N ops.toList i L (ap A Ts) R []=x at h';unfold G8 at h';split at h'
 case h_2=>cases h'
 rename_i dst l' q_ Ob';split at h'
 case h_2=>cases h'
 rename_i T' hj hpp;simp only[de,df] at h';obtain⟨e1,e2,e3,e4⟩:=h';subst e1;subst e2;subst e3;subst e4;simp only at hj hpp;rw[abc] at hpp;have h':=hx;unfold AJ at h';split at h'
 ·cases h'
 rename_i o ho;split at h'
 case h_2=>cases h'
 rename_i ss hw;split at h'
 case h_2=>cases h'
 rename_i iF hh he;split at h'
 case h_2=>cases h'
 rename_i c C_;split at h'
 case h_2=>cases h'
 rename_i f UZ;split at h'
 case h_2=>cases h'
 rename_i l2 cap bound hf;split at h'
 case h_2=>cases h'
 rename_i e1 e2;simp only[de,df] at h';obtain⟨d1,d2,d3,d4⟩:=h';subst d2;have hcap:cap=#[]:=by cases cap;simp_all
 have aiD:bound=#[]:=by cases bound;simp_all
 subst hcap;subst aiD;have oR:ops.toList.drop i=o::ops.toList.drop (i+1):=by
  have iN:i<ops.toList.length:=(bt.1 ho).1;rw[eB iN,(bt.1 ho).2]
 show wpListIn _ _ _ _ _ _ _ _;rw[oR,wpListIn];have UU:∀p∈ss.ob,p:=by rw[d4];intro p hp;cases hp
 obtain⟨c1,c2,c3⟩:=bZ hw hF UU;rw[if_pos c1];refine⟨λ _ _=>trivial,?_⟩;rw[hF.sem iF];have o_:=gi (A:=A) hj hpp.1;have IF:Rel (T'++(ap A ((oth [j] Ts.length).filterMap (Ts[·]?))++F)) w:=by rw[<- aaF];exact aT.perm (o_.symm.append_right F).symm
 obtain⟨fn,tmps,assign,body,hy,abG⟩:=hc w IF;rw[AK C_ UZ hf,d3,hy,Oper.uponIn_round];refine⟨λ h=>(by cases h),RoundIn.mono (show RoundIn (Wr r) (0-1) P l2 fn tmps assign body w _ from abG) ?_⟩;rintro e W' ⟨b,H',rfl,hv,VM,Xs⟩;obtain⟨L',p1⟩:=cr hpp.2 (.bool b);have hh:=(hk b H' hv).h hR;have Of:cR N (.bool b) ⟨.ops ops i,k,L,A,Ts⟩=⟨.ops ops (i+1),k,L',A,Ts⟩:=by
  unfold cR;rw[<- d1] at p1;simp only[ho,p1]
 rw[Of] at hh;rw[<- d1] at p1;refine hh _ W' (hF.put p1) (VM.perm ?_) (hB.trans Xs);rw[<- aaF];refine aa5 F ?_;show (A++(H'::(oth [j] Ts.length).filterMap (Ts[·]?)).flatten).Perm (H'++(A++((oth [j] Ts.length).filterMap (Ts[·]?)).flatten));rw[abe,<- aaF,<- aaF];exact aa5 _ aa4
theorem RN.rn{Ax:σ->HL}{Tx:σ->List HL}{I:σ->Prop}{Ix:Code->σ->Prop}(x:σ)(ip jp:List Nat)(hi:I x)(hc:(match s.c,s.k with | .ex .normal,[]=>true|_,_=>false)=true:=by kernel_rfl)
  (hp:aJ ip jp s=true:=by kernel_rfl) (hH:picks ip jp s=(Ax x,Tx x):=by kernel_rfl):RN r P N D F w0 R s (RQ F w0 (λ x=>ap (Ax x) (Tx x)) I Ix):=by
 unfold aJ at hp;unfold picks at hH;rw[abc] at hp;simp only[df] at hH;refine⟨λ hR a w h1 h2 h3=>?_⟩;obtain⟨c,k,L,A,Ts⟩:=s;split at hc
 case h_2=>cases hc
 rename_i e1 e2;simp only at e1 e2;subst e1;subst e2;exact⟨x,hi,h2.takeT ip _ jp _ hp.1 hp.2 (by rw[hH.1,hH.2]),h3⟩
theorem RN.rr{Ax:σ->HL}{Tx:σ->List HL}{I:σ->Prop}{Ix:Code->σ->Prop}(x:σ)(ip jp:List Nat)(hi:Ix .ret x)(hc:(match s.c with | .code .ret=>true|_=>false)=true:=by kernel_rfl)
  (hp:aJ ip jp s=true:=by kernel_rfl) (hH:picks ip jp s=(Ax x,Tx x):=by kernel_rfl):RN r P N D F w0 R s (RQ F w0 (λ x=>ap (Ax x) (Tx x)) I Ix):=by
 unfold aJ at hp;unfold picks at hH;rw[abc] at hp;simp only[df] at hH;refine⟨λ hR a w h1 h2 h3=>?_⟩;obtain⟨c,k,L,A,Ts⟩:=s;split at hc
 case h_2=>cases hc
 rename_i e1;simp only at e1;subst e1;exact wpIn_ret (iY k ⟨x,hi,h2.takeT ip _ jp _ hp.1 hp.2 (by rw[hH.1,hH.2]),h3⟩)
end
section
variable {P:Program} {N:Nat} {D:List Deferred} {F:HL} {w0:World} {R:HL} {s:Cfg} {Q:Exit->Act->World->Prop}
def mA(s:Cfg):Option (Value×Nat):=match s.c with
 | .code (.rangeFunc g ps _ _)=>match dw s.L g with
  |true=>some (cN s.L g,ps.size)
  |false=>none
 |_=>none
def LF(N:Nat)(s:Cfg):Bool:=match s.c with
 | .code (.rangeFunc _ ps _ _)=>ps.toList.all λ p=>decide (p<N)
 |_=>false
def QT(K:Act->World->Prop)(vs:List Value)(A:HL)(Ts:List HL)(s:Cfg):Cfg:=match s with
 | ⟨.code (.rangeFunc _ ps assign _),_,L,_,_⟩=>⟨.code assign,[.met K],qy ps.toList vs L,A,Ts⟩
 |s=>s
def QU(V:Inv)(s:Cfg):Cfg:=match s with
 | ⟨.code (.rangeFunc _ _ _ body),_,_,_,_⟩=>⟨.code body,[],V.L,V.A,V.Ts⟩
 |s=>s
def QV(c:Fo)(d:Nat)(ip jp:List Nat)(A:HL)(Ts:List HL)(s:Cfg):Cfg:=match s with
 | ⟨_,k,L,A',W8⟩=>⟨c,k,L,cg d::(A++(oth ip A'.length).filterMap (A'[·]?)),Ts++(oth jp W8.length).filterMap (W8[·]?)⟩
theorem RN.range{α:Type}{encs:α->Array Value}{xs:List α}{gf:FuncId}{lb:Array Value}(eg:∀args w,(callFunc gf args).run P w=.ok (.enter gf args) w)
  (S:σ->HL×List HL) (I:Nat->σ->Prop) (Ix:Code->σ->Prop) (W:τ->Inv) (Ia:Nat->α->τ->Prop) (x0:σ) (h0:I 0 x0) (ip jp:List Nat)
  (hit:It P gf lb (ap (eH ip s) (fA jp s)++F) encs xs)
  (BY:∀ (l i:Nat) (x:α) (s1:σ) (Y:HL) (w1:World),xs[i]?=some x->I i s1->
   (∀ {s':Cfg} {R':HL} (t:τ) (ZC ZB:List Nat),Ia i x t->(hm:Eh s'=some (MV N [] (Y++(ap (eH ip s) (fA jp s)++F)) w1 W (Ia i x)):=by kernel_rfl)->(h:vN (W t) ZC ZB s'=nT (W t):=by kernel_rfl)->(hp:aJ ZC ZB s'=true:=by kernel_rfl)->RN (some l) P N [] (Y++(ap (eH ip s) (fA jp s)++F)) w1 R' s' (λ _ _ _=>False))->
   RN (some l) P N [] (Y++(ap (eH ip s) (fA jp s)++F)) w1 (eH ip s++R) (QT (MV N [] (Y++(ap (eH ip s) (fA jp s)++F)) w1 W (Ia i x)) (encs x).toList (S s1).1 (S s1).2 s) (λ _ _ _=>False))
  (Uk:∀ (l i:Nat) (x:α) (t:τ) (Y:HL) (w1:World),xs[i]?=some x->Ia i x t->RN (some l) P N [] (Y++(ap (eH ip s) (fA jp s)++F)) w1 (eH ip s++R) (QU (W t) s) (RQ (Y++(ap (eH ip s) (fA jp s)++F)) w1 (λ s=>ap (S s).1 (S s).2) (I (i+1)) Ix))
  (Uj:∀ (d:Nat) (s1:σ),I xs.length s1->RN none P N (coll d::D) F w0 R (QV (.ex .normal) d ip jp (S s1).1 (S s1).2 s) Q)
  (Uf:∀ (d:Nat) (c:Code) (s1:σ),Ix c s1->RN none P N (coll d::D) F w0 R (QV (.code c) d ip jp (S s1).1 (S s1).2 s) Q)
  (WX:LF N s=true:=by kernel_rfl) (hp:aJ ip jp s=true:=by kernel_rfl) (hH:picks ip jp s=((S x0).1,(S x0).2):=by kernel_rfl) (hG:(mA s).map (·.1)=some (.func (.func gf) #[] lb):=by kernel_rfl) (u_:∀x:α,(mA s).map (·.2)=some (encs x).size:=by intro x;kernel_rfl):RN none P N D F w0 R s Q:=by
 refine⟨λ hR=>?_⟩;obtain⟨c,k,L,A,Ts⟩:=s;unfold aJ at hp;unfold picks at hH;rw[abc] at hp;simp only[df] at hH;cases c with
 |ops _ _=>simp[mA] at hG
 |ex _=>simp[mA] at hG
 |drw _ _=>simp[mA] at hG
 |code c=>
 cases c with
 |rangeFunc g ps assign body=>
  have hi:dw L g=true:=by
   cases h:dw L g with
   |true=>rfl
   |false=>simp[mA,h] at hG
  simp only[mA,hi,UV,de] at hG u_;simp only[LF] at WX;have Z8:∀ (Y:HL),∀y∈eH ip ⟨.code (.rangeFunc g ps assign body),k,L,A,Ts⟩++R,y∈Y++(ap (eH ip ⟨.code (.rangeFunc g ps assign body),k,L,A,Ts⟩) (fA jp ⟨.code (.rangeFunc g ps assign body),k,L,A,Ts⟩)++F):=by
   intro Y y hy;rcases np.1 hy with hy|hy
   ·exact aaz _ (aaB _ (aaB _ hy))
   ·exact aaz _ (aaz _ (hR y hy))
  exact Ed (assign:=assign) (body:=body) hi hG eg Ix (λ t=>(W t).L) (λ t=>ap (W t).A (W t).Ts) Ia (λ x=>(u_ x).symm) WX h0 hp.1 hp.2 rfl rfl hH.1 hH.2 hit
   (λ l i x s1 Y w1 hx hi=>(BY l i x s1 Y w1 hx hi (λ t ZC ZB ht hm h hp=>qN ht hm h hp)).h (Z8 Y))
   (λ l i x t Y w1 hx ht=>(Uk l i x t Y w1 hx ht).h (Z8 Y))
   (λ d s1 hs=>(Uj d s1 hs).h hR) (λ d c s1 hs=>(Uf d c s1 hs).h hR)
 |_=>simp[mA] at hG
theorem Sp.runM{f:FuncId}{c:Code}(hf:P.funcs[f]?=some fn)(hb:fn.body=some c)(hR:∀y∈R,y∈F){A:HL}(hH:H=ap A Ts)
  (h:∀w0,RN none P fn.ntmps [] F w0 R ⟨.code c,[],ll 0 args.toList,A,Ts⟩ (bodyPostM (Wr none) 0 P fn (ub F w0 R'))) (ha:decide (args.size<=fn.ntmps)=true:=by kernel_rfl):Sp P f args H F R':=by
 subst hH;exact xB hf hb rfl ha rfl λ w0=>(h w0).h hR
def kR(dx:List Nat)(s:Cfg):Cfg:=match s with
 | ⟨c,k,L,A,Ts⟩=>⟨c,k,L,(oth dx A.length).filterMap (A[·]?),Ts⟩
theorem G9 {dx:List Nat}(iS:AllP Ob){ip jp:List Nat}{v:Value}(hv:R' v H')
  (hD:D=ds.map coll:=by rfl) (hc:kj s=true:=by kernel_rfl) (hd:((dx++oth dx s.A.length).isPerm (List.range s.A.length),dx.filterMap (s.A[·]?))=(true,ds.map cg):=by kernel_rfl)
  (h:∀n0,gJ P n0 fn.results.toList R hints (kR dx s)=some (v,k8 (gJ P 0 fn.results.toList R hints (kR dx s)),k8 (gJ P 0 fn.results.toList R hints (kR dx s)),Ob):=by intro n0;kernel_rfl)
  (hp:aJ ip jp (kR dx s)=true:=by kernel_rfl) (hH:ap (picks ip jp (kR dx s)).1 (picks ip jp (kR dx s)).2=H':=by kernel_rfl):RN none P N D F w0 R s (bodyPostM (Wr none) 0 P fn (ub F w0 R')):=by
 unfold aJ at hp;unfold picks at hH;simp only[df] at hd;rw[abc] at hp;obtain⟨c,k,L,A,Ts⟩:=s;refine⟨λ hR a w hF aT hB=>?_⟩;have key:LeavesInM (Wr none) 0 P fn a.tmps (ub F w0 R') a.defers .returning w:=by
  exact Go.Proofs.YtjokannbjmndfaaGreatDoor.retM (by simp) ds hD dx (oth dx A.length) R hints v _ Ob hd.1 hd.2 rfl h hR iS ip _ jp _ H' hp.1 hp.2 hH hv a w hF aT hB
 exact o8 hc key key
theorem RN.retM(dx:List Nat)(hints:List Hint)(ip jp:List Nat){v:Value}(hv:R' v H')
 (hD:D=ds.map coll:=by rfl) (hc:kj s=true:=by kernel_rfl) (hd:((dx++oth dx s.A.length).isPerm (List.range s.A.length),dx.filterMap (s.A[·]?))=(true,ds.map cg):=by kernel_rfl)
 (h:∀n0,gJ P n0 fn.results.toList R hints (kR dx s)=some (v,k8 (gJ P 0 fn.results.toList R hints (kR dx s)),k8 (gJ P 0 fn.results.toList R hints (kR dx s)),[]):=by intro n0;kernel_rfl)
 (hp:aJ ip jp (kR dx s)=true:=by kernel_rfl) (hH:ap (picks ip jp (kR dx s)).1 (picks ip jp (kR dx s)).2=H':=by kernel_rfl):RN none P N D F w0 R s (bodyPostM (Wr none) 0 P fn (ub F w0 R')):=G9 ds hints [] trivial hv hD hc hd h hp hH
end
def SpD(P:Program)(f:FuncId)(args:Array Value)(H F:HL)(R:Value->HL->Prop):Prop :=
 ∀w,Rel (H++F) w->CallsDIn (Wr none) 0 P f args .returning w λ e u' w'=>u'=.returning/\∃v H',e=.returned v/\R v H'/\Rel (H'++F) w'/\Below 0 w w'
theorem SpD.mono{P:Program}{f:FuncId}{F:HL}{R:Value->HL->Prop}(h:SpD P f args H F R)(hr:∀v H',R v H'->R' v H'):SpD P f args H F R' :=
 λ w hR=>(h w hR).mono λ e u' w' ⟨h0,v,H',h1,h2,h3,h4⟩=>⟨h0,v,H',h1,hr _ _ h2,h3,h4⟩
section
variable {r:Option Nat} {P:Program} {N:Nat} {D:List Deferred} {F:HL} {w0:World} {R:HL} {s:Cfg} {Q:Exit->Act->World->Prop}
def dfR(N:Nat)(s:Cfg):Option (FuncId×Array Value×Array Value):=match eU s with
 |some o=>match o.guard,o.op,(cD N o.dst undef s.L).isSome with
  |none,.defer c,true=>match c.callee with
   | .value f=>match dw s.L f && c.args.toList.all (dw s.L) with
    |true=>match cN s.L f with
     | .func (.func g) first cap=>some (g,first++c.args.map (cN s.L),cap)
     |_=>none
    |false=>none
   |_=>none
  |_,_,_=>none
 |none=>none
abbrev QW(g:FuncId)(args cap:Array Value):Deferred:={ target:=.fn (.func g) cap,args:=args }
theorem CM{L:FL}{a:Act}(hF:Fm N D L a):∀ (l:List Operand),l.all (dw L)=true->l.map a.eval=l.map (cN L)
 | [],_=>rfl
 |x::l,h=>by
  rw[List.all_cons,abc] at h;rw[acF,acF,hF.eval h.1,CM hF l h.2]
theorem QX{cap:Array Value}(hk:RN none P N (QW g args cap::D) F w0 R (cR N undef s) Q)(h:dfR N s=some (g,args,cap):=by kernel_rfl):RN none P N D F w0 R s Q:=by
 refine⟨λ hR a w hF aT hB=>?_⟩;obtain⟨cc,kk,L,A,Ts⟩:=s;unfold dfR at h;split at h
 case h_2=>cases h
 rename_i o q0;split at h
 case h_2=>cases h
 rename_i c q1 q2 q3;split at h
 case h_2=>cases h
 rename_i f q4;split at h
 case h_2=>cases h
 rename_i q5;split at h
 case h_2=>cases h
 rename_i g' first iD q6
 simp only[de,df] at h;obtain⟨e1,e2,e3⟩:=h;subst e1;subst e2;subst e3;unfold eU at q0;cases cc with
 |code c=>cases q0
 |ex c=>cases q0
 |drw _ _=>cases q0
 |ops ops j=>
  simp only at q0 q3 q5 q6 hF aT;have oR:ops.toList.drop j=o::ops.toList.drop (j+1):=by
   have iN:j<ops.toList.length:=(bt.1 q0).1;rw[eB iN,(bt.1 q0).2]
  show wpListIn _ _ _ _ _ _ _ _;rw[oR,wpListIn,if_pos (by simp[Region.wanted,q1])];refine⟨λ _ _=>trivial,?_⟩;rw[abc] at q5;obtain⟨L',hl⟩:=cr q3 undef;have Of:cR N undef ⟨.ops ops j,kk,L,A,Ts⟩=⟨.ops ops (j+1),kk,L',A,Ts⟩:=by
   unfold cR;simp only[q0,hl]
  have hh:=hk.h hR;rw[Of] at hh;have XC:c.args.map a.eval=c.args.map (cN L):=by
   apply Array.ext';rw[adu,adu];exact CM hF _ q5.2
  have e1:a.eval f=.func (.func g') first iD:=(hF.eval q5.1).trans q6
  have hex:(o.semAt (Wr none).round a.eval).run P w=.ok (.defer (QW g' (first++c.args.map (cN L)) iD)) w:=by
   show (Oper.semAt none a.eval o).run P w=_;rw[Oper.semAt_none];simp only[execOp,q2,resolve,q4,e1,Deferred.ofValue,abg,XC];rfl
  rw[hex,Oper.uponIn_defer];have hF':Fm N (QW g' (first++c.args.map (cN L)) iD::D) L { a with defers:=QW g' (first++c.args.map (cN L)) iD::a.defers }:=⟨hF.size,by rw[<- hF.defs],hF.has⟩;exact hh _ w (hF'.put hl) aT hB
structure LV(P:Program)(N:Nat)(D:List Deferred)(F:HL)(w0:World)(R:HL)(fn:Func)(R':Value->HL->Prop)(s:Cfg):Prop where
 h:(∀y∈R,y∈F)->∀a w,Fm N D s.L a->Rel (ap s.A s.Ts++F) w->Below 0 w0 w->LeavesInM (Wr none) 0 P fn a.tmps (ub F w0 R') a.defers .returning w
theorem NU(hk:LV P N D F w0 R fn R' s)(hc:kj s=true:=by kernel_rfl):RN none P N D F w0 R s (bodyPostM (Wr none) 0 P fn (ub F w0 R')):=by
 refine⟨λ hR a w hF aT hB=>?_⟩;have key:=hk.h hR a w hF aT hB;exact o8 hc key key
def QY(ip jp:List Nat)(Hq:HL)(Tq:List HL)(s:Cfg):Cfg:=m6 (λ A=>Hq++(oth ip A.length).filterMap (A[·]?)) (λ Ts=>Tq++(oth jp Ts.length).filterMap (Ts[·]?)) s
theorem QZ{cap:Array Value}(eg:∀args w,(callFunc g args).run P w=.ok (.enter g args) w)(ip jp:List Nat){Hp:HL}{Tp:List HL}{Hq:τ->HL}{Tq:τ->List HL}{Rv:Value->τ->Prop}
  (hc:SpD P g (args++cap) (ap Hp Tp) (ap (eH ip s) (fA jp s)++F) (λ v H'=>∃x,H'=ap (Hq x) (Tq x)/\Rv v x)) (hk:∀v x,Rv v x->LV P N D F w0 R fn R' (QY ip jp (Hq x) (Tq x) s))
  (hp:aJ ip jp s=true:=by kernel_rfl) (hH:picks ip jp s=(Hp,Tp):=by kernel_rfl):LV P N (QW g args cap::D) F w0 R fn R' s:=by
 unfold aJ at hp;unfold picks at hH;rw[abc] at hp;simp only[df] at hH;obtain⟨e1,e2⟩:=hH;refine⟨λ hR a w hF aT hB=>?_⟩;have o_:(ap Hp Tp++ap (eH ip s) (fA jp s)).Perm (ap s.A s.Ts):=by
  have h1:=gC s.A s.Ts hp.1 hp.2;rw[e1,e2] at h1;exact h1
 have V6:Rel (ap Hp Tp++(ap (eH ip s) (fA jp s)++F)) w:=by rw[<- aaF];exact aT.perm (o_.append_right F)
 rw[hF.defs];refine⟨by simp,.inr ⟨(λ h=>by cases h),.func g,cap,g,args++cap,rfl,?_,λ _ _=>trivial,?_⟩⟩
 ·show (callFunc g (args++cap)).run P w=_;exact eg _ _
 ·refine(hc w V6).mono ?_;rintro e u' w' ⟨rfl,v,H',rfl,⟨x,rfl,hv⟩,VM,Xs⟩;have:=(hk v x hv).h hR { a with defers:=D } w' ⟨hF.size,rfl,hF.has⟩ ?_ (hB.trans Xs)
  ·exact this
  ·unfold QY;rw[qM.1,qM.2.1];refine VM.perm<|(nP _ _ _ _ _).symm
theorem LG(iS:AllP Ob){ip jp:List Nat}{v:Value}(hv:R' v H')
  (h:∀n0,gJ P n0 fn.results.toList R hints s=some (v,k8 (gJ P n0 fn.results.toList R hints s),k8 (gJ P n0 fn.results.toList R hints s),Ob):=by intro n0;kernel_rfl)
  (hp:aJ ip jp s=true:=by kernel_rfl) (hH:ap (picks ip jp s).1 (picks ip jp s).2=H':=by kernel_rfl):LV P N [] F w0 R fn R' s:=by
 unfold aJ at hp;unfold picks at hH;refine⟨λ hR a w hF aT hB=>?_⟩;rw[abc] at hp;have h':=h w.heap.size;unfold gJ AD at h';split at h'
 case h_2=>cases h'
 rename_i vs ss hs;split at h'
 case h_2=>cases h'
 simp only[k8,de,df] at h';obtain⟨e1,-,e3,e4⟩:=h';have iO:=jK (P:=P) hF aT fn.results.toList _ _ _ hs rfl rfl hR (λ e=>by cases e) (fP rfl e3) (by rw[e4];exact AllP.mem iS);subst e1;rw[hF.defs];exact⟨_,jm (by simp) iO,_,H',rfl,hv,aT.takeT ip _ jp _ hp.1 hp.2 hH,hB⟩
theorem LV.ret{v:Value}(hv:R' v H')
 (h:∀n0,gJ P n0 fn.results.toList R hints s=some (v,k8 (gJ P n0 fn.results.toList R hints s),k8 (gJ P n0 fn.results.toList R hints s),[]):=by intro n0;kernel_rfl)
 (hp:aJ ip jp s=true:=by kernel_rfl) (hH:ap (picks ip jp s).1 (picks ip jp s).2=H':=by kernel_rfl):LV P N [] F w0 R fn R' s:=LG hints [] trivial hv h hp hH
end
def aaj:=@RN.dn
def aao:=@RN.nt
def aar:=@RN.yield
end Go.Proofs.YtjokannbjmndfaaGreatDoor
