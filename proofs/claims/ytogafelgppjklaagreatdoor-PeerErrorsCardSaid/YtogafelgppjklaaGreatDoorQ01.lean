import Derived.Test.YtogafelgppjklaaGreatDoorQ00
import Derived.Deep.AppendSrc
import Derived.Laws.AppendOwn
import Derived.LoopN
import Derived.RangeFuncSeq
import Derived.RangeFuncLeaves
import Derived.Shelf.Abstract
set_option maxHeartbeats 4000000
set_option maxRecDepth 100000
set_option linter.all false
namespace Go.Proofs.YtogafelgppjklaaGreatDoor
open Go.RowKit
section
variable {A:Option Addr} {D:List Deferred} {F G H H' Hl Rd:HL} {L:FL} {N cap n:Nat} {P:Program} {R:Value->HL->Prop} {T:TypeId} {Ts:List HL} {a:Act} {assign:Code} {fn:Func} {g:Operand} {gf:FuncId} {hards jr:List Nat} {lb:Array Value} {o:Oper} {ops:Array Oper} {ps:Array Tmp} {w w0:World} {α σ τ:Type} (jp:List Nat)
structure Enc(α:Type) where
 w:Nat
 cell:α->Nat->Value
 dflt:α
section
variable {α:Type} (e:Enc α)
def ak(l:List α):Nat->Nat->Value:=λ i k=>e.cell (l.getD i e.dflt) k
def aq(l:List α):List Value:=l.flatMap λ x=>(List.range e.w).map (e.cell x)
theorem aE(l:List α):(aq e l).length=l.length*e.w:=by
 induction l with
 |nil=>simp[aq]
 |cons x l ih=>simp only[aq,List.flatMap_cons,aaK,ab2,adN,aaN,acB] at ih ⊢;omega
theorem aQ(l l':List α):aq e (l++l')=aq e l++aq e l':=by simp[aq]
theorem CJ(l:List α):∀n,n<=l.length->bq e.w (ak e l) n=aq e (l.take n)
 |0,_=>by simp[bq,aq]
 |n+1,h=>by
  rw[bq,CJ l n (by omega),adM (by omega),aQ];congr 1;simp[aq,ak,aaP (show n<l.length by omega)]
theorem gR(l:List α):bq e.w (ak e l) l.length=aq e l:=by rw[CJ e l _ (aaI _),acm]
def SlIs(T:TypeId)(l:List α)(A:Option Addr)(cap:Nat)(Hl:HL):Prop :=
 (A=none/\cap=0/\l=[]/\Hl=[])\/∃b o full,A=some ⟨b,o*e.w,none⟩/\Hl=[(b,.rows e.w (o+cap) (ak e full) T (0,0))]/\full.length=o+cap/\l.length<=cap/\(full.drop o).take l.length=l
def aX:Option Addr->Prop
 |none=>True
 |some a=>a.off=0
theorem SlIs.nil(T:TypeId):SlIs e T [] none 0 []:=.inl ⟨rfl,rfl,rfl,rfl⟩
end
def lJ:List Value->Nat->List Value->List Value
 |c,_,[]=>c
 |c,o,v::r=>lJ (c.set o v) (o+1) r
theorem nN:∀ (news c:List Value) (o:Nat),o+news.length<=c.length->∀j,(lJ c o news)[j]?=if o<=j/\j<o+news.length then news[j-o]? else c[j]?
 | [],c,o,_,j=>by rw[lJ,if_neg (by simp only[adH];omega)]
 |v::r,c,o,h,j=>by
  simp only[aaN] at h;rw[lJ,nN r _ (o+1) (by simp;omega) j]
  by_cases h1:o+1<=j/\j<o+1+r.length
  ·rw[if_pos h1,if_pos (by simp only[aaN];omega)];obtain⟨d,rfl⟩:∃d,j=o+1+d:=⟨j-(o+1),by omega⟩;rw[show o+1+d-o=d+1 by omega,abA];congr 1;omega
  ·rw[if_neg h1,ab5]
   by_cases h2:o=j
   ·subst h2;rw[if_pos rfl,if_pos (by omega),if_pos (by simp only[aaN];omega)];simp
   ·rw[if_neg h2,if_neg (by simp only[aaN];omega)]
theorem i5(b:Nat):∀ (news:List Value) (o:Nat) (w:World) (c:List Value) (ty:TypeId) (fz:Nat×Nat),w.heap[b]?=some (.cells ⟨c⟩ ty fz)->(w.setCells b o news).heap[b]?=some (.cells ⟨lJ c o news⟩ ty fz)
 | [],o,w,c,ty,fz,h=>h
 |v::r,o,w,c,ty,fz,h=>by
  rw[World.setCells,lJ];refine i5 b r (o+1) _ _ ty fz ?_;simp only[World.setCell,ada,if_true,h,abK];simp
theorem i6(b:Nat):∀ (news:List Value) (o:Nat) (w:World) (k:Nat),k≠b->(w.setCells b o news).heap[k]?=w.heap[k]?
 | [],o,w,k,h=>rfl
 |v::r,o,w,k,h=>by
  rw[World.setCells,i6 b r (o+1) _ k h];exact ad3 _ _ _ _ h
theorem i7(b:Nat):∀ (news:List Value) (o:Nat) (w:World),Below 0 w (w.setCells b o news)
 | [],o,w=>go _ _
 |v::r,o,w=>((go 0 w).setCell (aaJ _) v).trans (i7 b r (o+1) _)
theorem ii (c:Nat)(h:c<n):Builtin.nextslicecap n c<=2*n+192:=by
 unfold Builtin.nextslicecap;split
 ·omega
 ·split
  ·omega
  ·simp only[Builtin.growBy]
   repeat' split
   all_goals omega
section
variable {α:Type} {e:Enc α} {P:Program} {t tx ty T:TypeId} {inf:TypeInfo} {z:Value}
structure EncOk(e:Enc α)(P:Program)(T:TypeId)(inf:TypeInfo)(z:Value):Prop where
 info:P.info? T=some inf
 zero:inf.zero=some z
 size:inf.size=e.w
 zsize:z.cells.size=e.w
 zcell:∀k,k<e.w->z.cells[k]?=some (e.cell e.dflt k)
 one:∀x k,(e.cell x k).oneCell'=true
 bytes:inf.bytes<=1000
theorem lK(ok:EncOk e P T inf z)(n:Nat):(Builtin.zeroCells z.cells n).toList=aq e (List.replicate n e.dflt):=by
 unfold Builtin.zeroCells;rw[xw,ok.zsize];have h1:=gR e (List.replicate n e.dflt);rw[abo] at h1;rw[<- h1];show bq _ _ _=_;refine vN λ i k hi hk=>?_;have h2:=ok.zcell k hk;simp only[ak,aaG,ab3,UV,h2];split <;> rfl
theorem Ed(ok:EncOk e P T inf z)(ht:P.underlying t=some (.slice T)){l:List α}(h:SlIs e T l A cap Hl)(hR:Rel (Hl++G) w){src:List α}{x:Value}
  (hs:Src P inf.size tx x src.length (aq e src) w) (hb:l.length+src.length<=100000000) :
  ∃A' bY rW w',(Builtin.append_ #[t,tx] ty #[.slice A l.length cap,x]).run P w=.ok (.slice A' (l.length+src.length) bY) w'/\(SlIs e T (l++src) A' bY rW/\(aX A->aX A'))/\Rel (rW++G) w'/\Below 0 w w':=by
 have hby:=ok.bytes;have Wu:∀c,c<l.length+src.length->Builtin.nextslicecap (l.length+src.length) c*inf.bytes<=281474976710656:=λ c hc=>by
  have h1:=ii c hc;have h2:Builtin.nextslicecap (l.length+src.length) c*inf.bytes<=(2*100000000+192)*1000:=ad7 (by omega) hby;omega
 have grow:∀ (hg:cap<l.length+src.length) (hold:(Builtin.firstCells inf.size l.length (.slice A l.length cap)).run P w.drew=.ok (aq e l).toArray w.drew),∃A' bY rW w',(Builtin.append_ #[t,tx] ty #[.slice A l.length cap,x]).run P w=.ok (.slice A' (l.length+src.length) bY) w'/\(SlIs e T (l++src) A' bY rW/\(aX A->aX A'))/\Rel (rW++G) w'/\Below 0 w w':=by
  intro hg hold;have f_:=run_append_grow_src (P:=P) w t tx ty T inf z ht ok.info ok.zero A l.length cap (aq e l) hold x src.length (aq e src) hs hg (by omega) (Wu cap hg);have VT:=grownCap_ge w (l.length+src.length) cap T;generalize grownCap w (l.length+src.length) cap T=nc at *;refine⟨_,nc,[(w.heap.size,.rows e.w (0+nc) (ak e (l++src++List.replicate (nc-(l.length+src.length)) e.dflt)) T (0,0))],_,f_,⟨.inr ⟨w.heap.size,0,l++src++List.replicate (nc-(l.length+src.length)) e.dflt,by simp,rfl,by simp;omega,by simp;omega,by rw[adl,WF (by simp),abF (by simp)]⟩,λ _=>rfl⟩,?_,?_⟩
  ·have Wm:Rel G w:=hR.drop;have:=(Rel.cons (.rows e.w (0+nc) (ak e (l++src++List.replicate (nc-(l.length+src.length)) e.dflt)) T (0,0)) (o:=.cells ((aq e l++aq e src).toArray++Builtin.zeroCells z.cells (nc-(l.length+src.length))) T (0,0)) ?_ (Wm.world (w':=w.drew) rfl))
   ·exact this
   ·show Obj.cells _ _ _=_;congr 1;apply Array.ext';show bq _ _ _=_;have hl:0+nc=(l++src++List.replicate (nc-(l.length+src.length)) e.dflt).length:=by simp;omega
    rw[hl,gR,aQ,aQ,acM,lK ok]
  ·exact⟨rfl,rfl,rfl,by simp,λ k hk=>by omega⟩
 rcases h with ⟨rfl,rfl,rfl,rfl⟩|⟨b,o,full,rfl,rfl,Vc,hle,hl⟩
 ·-- nil
  rcases abI src.length with h0|h0
  ·obtain rfl:src=[]:=aaU h0;refine⟨none,0,[],w,?_,⟨.inl ⟨rfl,rfl,by simp,rfl⟩,λ h=>h⟩,hR,go _ _⟩;have hc:(Builtin.firstCells inf.size 0 x).run P w=.ok #[] w:=hs.cells;rcases hs.kind with ⟨e',hk⟩|hk <;> simp[Builtin.append_,run_underlying ht,run_underlying hk,Go.sizeOf,typeInfo,ok.info,hs.len,hc]
  ·exact grow (by simp;omega) (by simp[aq];exact run_firstCells_none w.drew inf.size 0 0 0)
 ·have Wc:=hR.holds _ (aaC G (aaD));simp only[Blk.den] at Wc;have Xt:(bq e.w (ak e full) (o+cap)).length=(o+cap)*e.w:=cm;have Q_:bq e.w (ak e full) (o+cap)=aq e full:=by rw[<- Vc];exact gR e full
  by_cases AT:l.length+src.length<=cap
  ·-- there is room
   have RW:=ok.size;have Wk:(aq e src).length=src.length*e.w:=aE e src;have VI:o*e.w+l.length*inf.size+(aq e src).length<=(o+cap)*e.w:=by
    rw[Wk,RW,<- abX,<- abX];exact ab0 _ (by omega)
   have L_:∀j,j<(aq e src).length->(w.cell? ⟨b,o*e.w+l.length*inf.size+j,none⟩).isSome=true:=λ j hj=>by
    simp[World.cell?,Wc,Xt];omega
   have ZH:∀j,j<(aq e src).length->w.frozen? ⟨b,o*e.w+l.length*inf.size+j,none⟩=false:=λ j hj=>by simp[World.frozen?,Wc]
   have f_:=run_append_room_src (P:=P) w t tx ty T inf ht ok.info b (o*e.w) l.length cap x src.length (aq e src) hs AT L_ ZH;have ZP:=i5 b (aq e src) (o*e.w+l.length*inf.size) w _ _ _ Wc;have Xw:lJ (bq e.w (ak e full) (o+cap)) (o*e.w+l.length*inf.size) (aq e src)=aq e (full.take (o+l.length)++src++full.drop (o+l.length+src.length)):=by
    apply abP;intro j;rw[nN _ _ _ (by rw[Xt];exact VI),Q_,aQ,aQ];have c1:(aq e (full.take (o+l.length))).length=(o+l.length)*e.w:=by rw[aE,aaL];congr 1;omega
    have c0:o*e.w+l.length*inf.size=(o+l.length)*e.w:=by rw[RW,<- abX]
    have V4:aq e full=aq e (full.take (o+l.length))++aq e (full.drop (o+l.length)):=by rw[<- aQ,abg]
    have WQ:aq e (full.drop (o+l.length))=aq e ((full.drop (o+l.length)).take src.length)++aq e (full.drop (o+l.length+src.length)):=by
     rw[<- aQ,show o+l.length+src.length=(o+l.length)+src.length from rfl,<- adm (i:=src.length) (j:=o+l.length),abg]
    have c2:(aq e ((full.drop (o+l.length)).take src.length)).length=src.length*e.w:=by rw[aE,aaL,aaM];congr 1;omega
    rw[c0]
    by_cases h1:j<(o+l.length)*e.w
    ·rw[if_neg (by omega),V4,aaF,aaQ (by omega),aaQ (by omega)]
    ·by_cases h2:j<(o+l.length)*e.w+src.length*e.w
     ·rw[if_pos (by omega),aaF,aaR (by omega),aaQ (by omega),c1]
     ·rw[if_neg (by omega),V4,WQ,aaF,aaR (by omega),aaR (by omega),aaR (by omega),aaR (by omega),c1,c2,Wk]
   have ZJ:(full.take (o+l.length)++src++full.drop (o+l.length+src.length)).length=o+cap:=by simp;omega
   refine⟨_,cap,[(b,.rows e.w (o+cap) (ak e (full.take (o+l.length)++src++full.drop (o+l.length+src.length))) T (0,0))],_,f_,⟨.inr ⟨b,o,_,rfl,rfl,ZJ,by simp;omega,?_⟩,λ h=>h⟩,?_,i7 _ _ _ _⟩
   ·have h1:full.take (o+l.length)=full.take o++l:=by rw[List.take_add,hl]
    rw[h1,aaF,aaF,abH (by simp;omega),ab4 (by rw[aaL];omega),abz,<- aaF];rw[WF (by simp)];exact abF (by simp)
   ·refine⟨?_,by have:=hR.nodup;simpa using this⟩;intro y hy;rcases abs.1 hy with rfl|hy
    ·rw[ZP,Xw];simp only[Blk.den];rw[<- ZJ,gR]
    ·have DO:y.1≠b:=by
      have:=hR.nodup;simp only[abl,abz,ab7,adG] at this;intro e1;exact this.1 (by rw[<- e1];exact acO hy)
     rw[i6 b _ _ _ _ DO];exact hR.holds y (aaB _ hy)
  ·refine grow (by omega)<|run_firstCells_some w.drew inf.size l.length ⟨b,o*e.w,none⟩ l.length cap (aq e l) (by rw[aE,ok.size]) ?_;intro j u hj;have Xa:j<(aq e l).length:=(bt.1 hj).1;rw[aE] at Xa;have UE:aq e l=((aq e full).drop (o*e.w)).take (l.length*e.w):=by
    have h1:aq e full=aq e (full.take o)++(aq e l++aq e ((full.drop o).drop l.length)):=by
     rw[<- aQ,<- aQ];congr 1
     conv=>lhs;rw[<- abg o full]
     congr 1
     conv=>lhs;rw[<- abg l.length (full.drop o)]
     rw[hl]
    have c1:(aq e (full.take o)).length=o*e.w:=by rw[aE,aaL];congr 1;omega
    rw[h1,abH (by omega),ab4 (by omega),abz,WF (by rw[aE];exact aaI _),abF (by rw[aE];exact aaI _)]
   rw[Addr.add_lit];show World.cell? w ⟨b,o*e.w+j,none⟩=some u;simp only[World.cell?,Wc,Q_];rw[UE,abe,if_pos (by omega),abd] at hj;simpa using hj
theorem mA(ok:EncOk e P T inf z){a1 a2:Operand}(ID:o.op=.call { callee:=.builtin .append,args:=#[a1,a2],argTypes:=#[t,tx] })(ht:P.underlying t=some (.slice T))
  {l src:List α} {x:Value} (hi:(gm L a1 && gm L a2)=true) (h1:eY L a1=.slice A n cap) (hn:n=l.length) (h2:eY L a2=x) (oF:(Hl++G).Perm H) (WR:SlIs e T l A cap Hl)
  (hs:∀w,Rel (H++F) w->Src P inf.size tx x src.length (aq e src) w) (hb:l.length+src.length<=100000000) (hF:Fm N D L a) (hR:Rel (H++F) w) :
  cI P o a w λ u w'=>∃y:Option Addr×Nat×HL,(u=.slice y.1 (n+src.length) y.2.1/\(SlIs e T (l++src) y.1 y.2.1 y.2.2/\(aX A->aX y.1)))/\Rel ((y.2.2++G)++F) w'/\Below 0 w w':=by
 subst hn;simp only[aaW] at hi;have e1:=(hF.eval hi.1).trans h1;have e2:=(hF.eval hi.2).trans h2;have By:Rel (Hl++(G++F)) w:=by rw[<- aaF];exact hR.perm (oF.append_right F)
 obtain⟨A',bY,rW,w',r1,r2,r3,r4⟩:=Ed (ty:=o.type) ok ht WR By (hs w hR) hb;unfold cI;have f_:(execOp a.eval o).run P w=.ok (.value (.slice A' (l.length+src.length) bY)) w':=by
  simp[execOp,ID,resolve,invoke,builtin,aa8,e1,e2,r1]
 rw[f_];exact⟨(A',bY,rW),⟨rfl,r2⟩,by rw[aaF];exact r3,r4⟩
theorem qW(ok:EncOk e P T inf z){e':TypeId}(hk:P.underlying tx=some (.slice e')){sb c:Nat}{src:List α}{ty:TypeId}{fz:Nat×Nat}(p:Nat)(h:H[p]?=some (sb,.lit (aq e src) ty fz))(hR:Rel (H++F) w):Src P inf.size tx (vS sb 0 src.length c) src.length (aq e src) w:=by
 refine Src.ofSlice w hk _ _ _ _ (by rw[aE,ok.size]) ?_ ?_
 ·intro j u hj;have hb:=hR.holds _ (aaC F (np h));simp only[Blk.den] at hb;rw[Addr.add_lit];simp[World.cell?,hb,hj]
 ·intro u hu;simp only[aq,adT,abG] at hu;obtain⟨x,_,k,_,rfl⟩:=hu;exact ok.one x k
end
section
variable {r:Option Nat} {P:Program} {N:Nat} {D:List Deferred} {F:HL} {w0:World} {ops:Array Oper} {i:Nat} {L:FL} {H:HL} {Q:Exit->Act->World->Prop}
def dU(H:HL):List (Nat×Obj):=H.map λ x=>(x.1,x.2.den)
theorem Rel.den{H:HL}(e:dU H=dU H')(h:Rel H w):Rel H' w:=by
 have h1:H'.map (·.1)=H.map (·.1):=by
  have:=congrArg (List.map (·.1)) e;simpa [dU,Function.comp_def] using this.symm
 refine⟨λ x hx=>?_,by have:=h.nodup;rw[h1];exact this⟩;have:(x.1,x.2.den)∈dU H:=e▸acO hx;obtain⟨y,hy,e2⟩:=abG.1 this;have h3:=h.holds y hy;simp only[df] at e2;rw[<- e2.1,<- e2.2];exact h3
theorem Rel.denA{A A' F:HL}(e:dU A=dU A')(h:Rel (ap A Ts++F) w):Rel (ap A' Ts++F) w :=
 h.den (by simp only[dU,abJ] at e ⊢;rw[e])
end
theorem OPJ.den{i:Nat}{K K':Act->HL->Prop}(hK:∀a H1 H2,dU H1=dU H2->K a H1->K' a H2)(hp:dU H=dU H')(h:OPJ P ops F w0 hards Rd i a H K):OPJ P ops F w0 hards Rd i a H' K':=by
 have hx:∀X:HL,dU (X++H)=dU (X++H'):=λ X=>by simp only[dU,abJ] at hp ⊢;rw[hp]
 have hf:∀ (A B:HL) (w:World),dU A=dU B->Rel (A++F) w->Rel (B++F) w:=λ A B w e h=>h.den (by simp only[dU,abJ] at e ⊢;rw[e]);unfold OPJ at h ⊢;cases ho:ops[i]? with
 |none=>rw[ho] at h;exact h
 |some o=>
  rw[ho] at h;simp only at h ⊢;split
  ·rename_i hw;rw[if_pos hw] at h;intro w hR hB;refine dS (h w (hf _ _ _ hp.symm hR) hB) ?_;rintro u w' ⟨H1,⟨s1,s2⟩,k1,k2,k3⟩
   by_cases hi:i∈hards
   ·exact⟨H1,⟨λ e=>absurd hi e,s2⟩,hK _ _ _ rfl k1,k2,k3⟩
   ·obtain⟨X,rfl⟩:=s1 hi;exact⟨X++H',⟨λ _=>⟨X,rfl⟩,λ e=>absurd e hi⟩,hK _ _ _ (hx X) k1,hf _ _ _ (hx X) k2,k3⟩
  ·rename_i hw;rw[if_neg hw] at h;exact hK _ _ _ hp h
theorem JJ.den{P:Program}{F:HL}{w0:World}{ops:Array Oper}{Q:Exit->Act->World->Prop}{hards:List Nat}{Rd:HL}:∀ (fuel:Nat) (listed:Array Bool) (a:Act) (H H':HL),dU H=dU H'->JJ P ops Q F w0 hards Rd fuel listed a H->JJ P ops Q F w0 hards Rd fuel listed a H'
 |0,listed,a,H,H',hp,h=>⟨h.1,λ w hR hB=>h.2 w (hR.den (by simp only[dU,abJ] at hp ⊢;rw[hp])) hB⟩
 |fuel+1,listed,a,H,H',hp,h=>⟨λ e w hR hB=>h.1 e w (hR.den (by simp only[dU,abJ] at hp ⊢;rw[hp])) hB,λ i hi=>OPJ.den (λ a H1 H2 hp h=>JJ.den fuel _ a H1 H2 hp h) hp (h.2 i hi)⟩
theorem TD.den{fuel:Nat}{listed:List Bool}{Q:Exit->Act->World->Prop}{A:HL}(A':HL)(e:dU A=dU A')(h:TD P N D F w0 ops hards Rd fuel listed L (ap A' Ts) Q):TD P N D F w0 ops hards Rd fuel listed L (ap A Ts) Q:=by
 intro I_ a hF;refine JJ.den _ _ _ _ _ ?_ (h I_ a hF);simp only[dU,abJ] at e ⊢;rw[e]
theorem SlIs.open{e:Enc α}{l:List α}(h:SlIs e T l A cap Hl)(hl:0<l.length):∃b o full,A=some ⟨b,o*e.w,none⟩/\Hl=[(b,.rows e.w (o+cap) (ak e full) T (0,0))]/\full.length=o+cap/\l.length<=cap/\∀i,i<l.length->full.getD (o+i) e.dflt=l.getD i e.dflt:=by
 rcases h with ⟨_,_,rfl,_⟩|⟨b,o,full,h1,h2,h3,h4,h5⟩
 ·simp at hl
 ·refine⟨b,o,full,h1,h2,h3,h4,λ i hi=>?_⟩;have:l.getD i e.dflt=((full.drop o).take l.length).getD i e.dflt:=by rw[h5]
  rw[this];simp only[aaG,abe,abd,hi,if_true]
theorem SlIs.open0{e:Enc α}{l:List α}(h:SlIs e T l A cap Hl)(hz:aX A)(hw:0<e.w)(hl:0<l.length):∃b rest,A=some ⟨b,0,none⟩/\Hl=[(b,.rows e.w cap (ak e (l++rest)) T (0,0))]/\l.length<=cap:=by
 rcases h with ⟨_,_,rfl,_⟩|⟨b,o,full,rfl,rfl,h3,h4,h5⟩
 ·simp at hl
 ·have ho:o=0:=by
   have h6:o*e.w=0:=hz;rcases Nat.mul_eq_zero.1 h6 with h|h
   ·exact h
   ·omega
  subst ho;refine⟨b,full.drop l.length,by rw[adS],?_,h4⟩;have:l++full.drop l.length=full:=by
   conv=>lhs;lhs;rw[<- h5]
   rw[adl,abg]
  rw[this,abp]
section
variable {r:Option Nat} {P:Program} {N:Nat} {D:List Deferred} {F:HL} {w0:World} {ops:Array Oper} {i:Nat} {L:FL} {Q:Exit->Act->World->Prop} {A:HL} {Ts XP:List HL} {x:Nat×Blk}
theorem AK{A:HL}{Ts XP:List HL}{x:Nat×Blk}{j:Nat}(hp:([j]++jr).isPerm (List.range Ts.length)=true)(hj:Ts[j]?=some [x])(hr:jr.filterMap (Ts[·]?)=XP):(ap (x::A) XP).Perm (ap A Ts):=by
 have h3:=fU Ts hp;simp only[acK,hj,adI,hr] at h3;have h4:=h3.flatten;simp only[abl,abz,aa6] at h4;show (x::(A++XP.flatten)).Perm (A++Ts.flatten);refine List.Perm.trans ?_ (abB A h4);exact(sv (a:=x) (l₁:=A) (l₂:=XP.flatten)).symm
theorem GY{A:HL}{Ts XP:List HL}(hp:jp.isPerm (List.range Ts.length)=true)(e:jp.filterMap (Ts[·]?)=XP):(ap A XP).Perm (ap A Ts):=by
 have h3:=fU Ts (ip:=jp) (ir:=[]) (by simpa using hp);rw[e] at h3;simp only[adI,ace] at h3;exact abB A h3.flatten
end
open Go.Shelf
def YL(P:Program)(l:Nat)(args:Array Value)(H F:HL)(R:Bool->HL->Prop):Prop :=
 ∀w,Rel (H++F) w->YieldAt (Wr none) 0 P l args w λ e W'=>∃b H',e=.returned (.bool b)/\R b H'/\Rel (H'++F) W'/\Below 0 w W'
def It(P:Program)(g:FuncId)(lb:Array Value)(F:HL){α:Type}(encs:α->Array Value)(xs:List α):Prop :=
 ∀ (X:HL) (l:Nat) (J:Nat->HL->Prop) (Jx:HL->Prop) (H0:HL),(∀i x H Y,xs[i]?=some x->J i H->YL P l (encs x) H (Y++(X++F)) (λ b H'=>(b=true/\J (i+1) H')\/(b=false/\Jx H')))->J 0 H0->
  Sp P g (#[.func (.yield l) #[] #[]]++lb) H0 (X++F) (λ _ H'=>J xs.length H'\/Jx H')
def AL(P:Program)(n0 N:Nat)(ops:List Oper)(i:Nat)(L:FL)(H R:HL)(hints:List Hint):Option (Option Tmp×Nat×Array Value×List Prop) :=
 match ops[i]? with
 |none=>none
 |some o=>match jA ops o L ⟨H,R,hints,0,[],[],true⟩ with
  |some (true,s)=>match iX o.op L,s.hints,s.eq with
   |true,[],[]=>match o.op with
    | .call c=>match c.callee with
     | .value f=>match eY L f with
      | .func (.yield l) cap bound=>match cap.toList,bound.toList with
       | [],[]=>some (o.dst,l,c.args.map (eY L),s.ob)
       |_,_=>none
      |_=>none
     |_=>none
    |_=>none
   |_,_,_=>none
  |_=>none
theorem AO{ρ:Operand->Value}{c:Call}{f:Operand}{l:Nat}(ho:o.op=.call c)(hc:c.callee=.value f)(hf:ρ f=.func (.yield l) #[] #[])(w:World) :
  (execOp ρ o).run P w=(Instr.yield l (c.args.map ρ)).run P w:=by
 simp[execOp,ho,resolve,hc,hf,Deferred.ofValue,invoke,aa8,Result.andThen]
section
variable {r:Option Nat} {P:Program} {N:Nat} {D:List Deferred} {F:HL} {w0:World} {ops:Array Oper} {i:Nat} {L:FL} {H:HL} {Q:Exit->Act->World->Prop}
end
abbrev cj(d:Nat):Nat×Blk:=(d,.obj (.deferred (some [])))
abbrev coll(d:Nat):Deferred:={ target:=.collected d,args:=#[] }
theorem Rel.putObj{F:HL}{l:Nat}{b:Blk}(b':Blk)(h:Rel ((l,b)::H) w):Rel ((l,b')::H) (w.putObj l b'.den):=by
 have hl:=h.lt (aaD);refine⟨λ x hx=>?_,by simpa using h.nodup⟩;rcases abs.1 hx with rfl|hx
 ·exact World.putObj_heap_same hl
 ·have DO:x.1≠l:=by
   have:=h.nodup;simp only[ab7,adG] at this;intro e;exact this.1 (e▸acO hx)
  exact(World.putObj_heap_other DO).trans (h.holds x (aaE _ hx))
theorem dQ{l:Nat}{o:Obj}:Below 0 w (w.putObj l o):=⟨rfl,rfl,rfl,by simp,λ k hk=>by omega⟩
theorem iJ{o:Obj}:Below 0 w (w.alloc o):=⟨rfl,rfl,rfl,by simp,λ k hk=>by omega⟩
theorem Rel.alloc(b:Blk)(h:Rel H w):Rel ((w.heap.size,b)::H) (w.alloc b.den):=Rel.cons b rfl h
def RQ{σ:Type}(F:HL)(w0:World)(Hx:σ->HL)(I:σ->Prop)(Ix:Code->σ->Prop):Exit->Act->World->Prop
 | .normal,_,w=>∃s,I s/\Rel (Hx s++F) w/\Below 0 w0 w
 | .ret,_,w=>∃s,Ix .ret s/\Rel (Hx s++F) w/\Below 0 w0 w
 | .exit id,_,w=>∃s,Ix (.exit id) s/\Rel (Hx s++F) w/\Below 0 w0 w
 |_,_,_=>False
section
variable {P:Program} {N:Nat} {D:List Deferred} {F:HL} {w0:World} {L:FL} {Q:Exit->Act->World->Prop}
def qG:List Tmp->List Value->FL->FL
 |p::ps,v::vs,L=>qG ps vs ((p,v)::L)
 |_,_,L=>L
theorem Fm.zip:∀ (ps:List Tmp) (vs:List Value) (L:FL) (tmps:Array Value),(∀p∈ps,p<N)->Fm N D L { tmps:=tmps,defers:=D } ->Fm N D (qG ps vs L) { tmps:=(ps.zip vs).foldl (λ t (p,v)=>t.setIfInBounds p v) tmps,defers:=D }
 |p::ps,v::vs,L,tmps,hN,h=>by
  rw[qG,List.zip_cons_cons,List.foldl_cons];refine Fm.zip ps vs _ _ (λ q hq=>hN q (aaE _ hq)) ⟨by simpa using h.size,rfl,λ t u ht=>?_⟩;have hs:tmps.size=N:=h.size;have hp:=hN p aaD;rw[acT] at ht;simp only
  by_cases e:t=p
  ·subst e;simp at ht;subst ht;rw[ac5];simp[hs,hp]
  ·have:(t == p)=false:=by simpa using e
   rw[this] at ht;rw[ac5,if_neg (λ e'=>e e'.symm)];exact h.has _ _ ht
 | [],vs,L,tmps,_,h=>by simpa [qG] using h
 |_::_,[],L,tmps,_,h=>by simpa [qG] using h
theorem TR.range{body:Code}{encs:α->Array Value}{xs:List α}(hi:gm L g=true)(hg:eY L g=.func (.func gf) #[] lb)(eg:∀args w,(callFunc gf args).run P w=.ok (.enter gf args) w)
  (Hx:σ->HL) (I:Nat->σ->Prop) (Ix:Code->σ->Prop) (La:τ->FL) (Ha:τ->HL) (Ia:Nat->α->τ->Prop) (hps:∀x,(encs x).size=ps.size) (XF:(ps.toList.all λ p=>decide (p<N))=true)
  (x0:σ) (h0:I 0 x0) {A:HL} (ip ir jp jr:List Nat) (hp:(ip++ir).isPerm (List.range A.length)=true) (hj:(jp++jr).isPerm (List.range Ts.length)=true) (Hr:HL) (Tr:List HL) (hHr:ir.filterMap (A[·]?)=Hr) (hTr:jr.filterMap (Ts[·]?)=Tr) (hH:ap (ip.filterMap (A[·]?)) (jp.filterMap (Ts[·]?))=Hx x0)
  (hit:It P gf lb (ap Hr Tr++F) encs xs)
  (AS:∀ (l i:Nat) (x:α) (s:σ) (Y:HL) (w1:World),xs[i]?=some x->I i s->TR (some l) P N [] (Y++(ap Hr Tr++F)) w1 (qG ps.toList (encs x).toList L) (Hx s) assign (Exit.then (OS N [] (Y++(ap Hr Tr++F)) w1 La Ha (Ia i x)) (λ _ _ _=>False)))
  (UW:∀ (l i:Nat) (x:α) (t:τ) (Y:HL) (w1:World),xs[i]?=some x->Ia i x t->TR (some l) P N [] (Y++(ap Hr Tr++F)) w1 (La t) (Ha t) body (RQ (Y++(ap Hr Tr++F)) w1 Hx (I (i+1)) Ix))
  (UU:∀ (d:Nat) (s:σ),I xs.length s->EX N (coll d::D) F w0 L (cj d::(Hx s++ap Hr Tr)) Q .normal)
  (UR:∀ (d:Nat) (c:Code) (s:σ),Ix c s->TR none P N (coll d::D) F w0 L (cj d::(Hx s++ap Hr Tr)) c Q) :
  TR none P N D F w0 L (ap A Ts) (.rangeFunc g ps assign body) Q:=by
 intro a w hF hR hB;have hR1:Rel (Hx x0++(ap Hr Tr++F)) w:=by
  have h1:=my A Ts hp hj;rw[hHr,hTr,hH] at h1;rw[<- aaF];exact hR.perm (h1.append_right F)
 refine wpIn_rangeFunc ?_;intro fn hfn;obtain⟨rec,UT⟩:∃rec:LoopState->Option Code->Loop,rec=λ st pe=>{ state:=st,pending:=pe,fn,tmps:=a.tmps,params:=ps,assign,body,defers:=w.heap.size }:=⟨_,rfl⟩;obtain⟨W1,hW1⟩:∃W1,(w.alloc (.deferred (some []))).alloc (.loop (rec .ready none))=W1:=⟨_,rfl⟩;have hB1:Below 0 w W1:=by rw[<- hW1];exact(iJ).trans (iJ)
 have hRW:Rel ((w.heap.size+1,Blk.obj (.loop (rec .ready none)))::cj w.heap.size::(Hx x0++(ap Hr Tr++F))) W1:=by
  rw[<- hW1];have h1:=(hR1.alloc (.obj (.deferred (some [])))).alloc (.obj (.loop (rec .ready none)));rw[World.size_alloc] at h1;exact h1
 refine⟨w.heap.size+1,[coll w.heap.size],W1,{ target:=.fn (.func gf) lb,args:=#[.func (.yield (w.heap.size+1)) #[] #[]] },W1,gf,#[.func (.yield (w.heap.size+1)) #[] #[]]++lb,W1,?_,?_,?_,?_,λ h=>(by cases h),?_⟩
 ·rw[<- hW1,UT];exact run_enterLoop_outer _ _ _ _ _
 ·have VT:a.eval g=.func (.func gf) #[] lb:=(hF.eval hi).trans hg;simp only[resolve,VT];simp[Deferred.ofValue];rfl
 ·intro f' _;trivial
 ·simp[invoke,eg]
 ·refine jV ?_;obtain⟨l,hl⟩:∃l,w.heap.size+1=l:=⟨_,rfl⟩;rw[hl] at hRW ⊢;obtain⟨d,hd⟩:∃d,w.heap.size=d:=⟨_,rfl⟩;rw[hd] at hRW UT ⊢;have key:=hit [] l (λ i H'=>∃s,I i s/\H'=(l,Blk.obj (.loop (rec .ready none)))::cj d::Hx s) (λ H'=>∃c s,Ix c s/\H'=(l,Blk.obj (.loop (rec .done (some c))))::cj d::Hx s)
   ((l,Blk.obj (.loop (rec .ready none)))::cj d::Hx x0) ?round ⟨x0,h0,rfl⟩ W1 hRW
  case round=>
   rintro i x H' Y hx ⟨s,hs,rfl⟩ W aT;have Vr:Rel ((l,Blk.obj (.loop (rec .ready none)))::(cj d::(Hx s++(Y++(ap Hr Tr++F))))) W:=aT;have hlW:W.heap[l]?=some (.loop (rec .ready none)):=Vr.holds _ aaD;have hy:=run_yield (P:=P) (args:=encs x) hlW (by rw[UT];exact hps x);rw[UT] at hy;refine⟨fn,_,assign,body,hy,roundIn_of_wpIn (F:=Wr none) (n:=0) hfn ?_⟩;have hFm:Fm N [] (qG ps.toList (encs x).toList L) { tmps:=(ps.zip (encs x)).foldl (λ t (p,v)=>t.setIfInBounds p v) a.tmps,defers:=[] }:=by
    have h1:=Fm.zip (D:=[]) ps.toList (encs x).toList L a.tmps (λ p hp=>aa9 (ady.1 XF p hp)) ⟨hF.size,rfl,hF.has⟩;have e:(ps.zip (encs x)).foldl (λ t (p,v)=>t.setIfInBounds p v) a.tmps=(ps.toList.zip (encs x).toList).foldl (λ t (p,v)=>t.setIfInBounds p v) a.tmps:=by
     rw[<- adJ,aec]
    rw[e];exact h1
   have hRA:Rel (Hx s++(((l,Blk.obj (.loop (rec .ready none)))::cj d::Y)++(ap Hr Tr++F))) W:=by
    have:=Vr;refine this.perm ?_;simp only[abl];refine sv.trans<|List.Perm.cons _ sv
   refine wpIn_mono (AS l i x s ((l,Blk.obj (.loop (rec .ready none)))::cj d::Y) W hx hs _ W hFm hRA (go _ _)) ?_;intro e a1 Wa hq;cases e with
   |normal=>
    obtain⟨t,ht,m1,m2,m3⟩:=hq;have hRb:Rel ((l,Blk.obj (.loop (rec .ready none)))::(cj d::(Ha t++(Y++(ap Hr Tr++F))))) Wa:=by
     refine m2.perm ?_;simp only[abl];refine(List.Perm.trans ?_ sv.symm);refine List.Perm.cons _ sv.symm
    have hla:Wa.heap[l]?=some (.loop (rec .ready none)):=hRb.holds _ aaD;refine⟨_,run_beginRound hla (by rw[UT]),?_⟩;have hRc:=hRb.putObj (F:=[]) (.obj (.loop { rec .ready none with state:=.busy }));have Wx:Rel (Ha t++(((l,Blk.obj (.loop { rec .ready none with state:=.busy }))::cj d::Y)++(ap Hr Tr++F))) (Wa.putObj l (.loop { rec .ready none with state:=.busy })):=by
     refine hRc.perm ?_;simp only[abl];refine sv.trans<|List.Perm.cons _ sv
    refine wpIn_mono (UW l i x t ((l,Blk.obj (.loop { rec .ready none with state:=.busy }))::cj d::Y) W hx ht a1 _ m1 Wx (m3.trans (dQ))) ?_;have fin:∀ (jump:Option Code) (s':σ) (W3:World),Rel (Hx s'++(((l,Blk.obj (.loop { rec .ready none with state:=.busy }))::cj d::Y)++(ap Hr Tr++F))) W3->Below 0 W W3->
      ∃v w',(Instr.endRound l jump).run P W3=.ok v w'/\v=.bool jump.isNone/\Rel (((l,Blk.obj (.loop (rec (if jump.isNone then .ready else .done) jump)))::cj d::Hx s')++(Y++([]++(ap Hr Tr++F)))) w'/\Below 0 W w':=by
     intro jump s' W3 h3 hb3;have h4:Rel ((l,Blk.obj (.loop { rec .ready none with state:=.busy }))::(cj d::(Hx s'++(Y++(ap Hr Tr++F))))) W3:=by
      refine h3.perm ?_;simp only[abl];refine(List.Perm.trans ?_ sv.symm);refine List.Perm.cons _ sv.symm
     have YI:W3.heap[l]?=some (.loop { rec .ready none with state:=.busy }):=h4.holds _ aaD;have f_:=run_endRound (P:=P) jump YI;refine⟨_,_,f_,rfl,?_,hb3.trans (dQ)⟩;have h5:=h4.putObj (F:=[]) (.obj (.loop (rec (if jump.isNone then .ready else .done) jump)));rw[UT] at h5 ⊢;exact h5
    intro e2 a2 W3 Vh;cases e2 with
    |normal=>
     obtain⟨s',US,n2,n3⟩:=Vh;obtain⟨v,w',k1,k2,k3,k4⟩:=fin none s' W3 n2 n3;exact⟨v,w',k1,true,_,by rw[k2];rfl,.inl ⟨rfl,s',US,rfl⟩,k3,k4⟩
    |ret=>
     obtain⟨s',US,n2,n3⟩:=Vh;obtain⟨v,w',k1,k2,k3,k4⟩:=fin (some .ret) s' W3 n2 n3;exact⟨v,w',k1,false,_,by rw[k2];rfl,.inr ⟨rfl,.ret,s',US,rfl⟩,k3,k4⟩
    |exit id=>
     obtain⟨s',US,n2,n3⟩:=Vh;obtain⟨v,w',k1,k2,k3,k4⟩:=fin (some (.exit id)) s' W3 n2 n3;exact⟨v,w',k1,false,_,by rw[k2];rfl,.inr ⟨rfl,.exit id,s',US,rfl⟩,k3,k4⟩
    |goto t=>exact Vh.elim
    |panic ch=>exact Vh.elim
    |outgrown=>exact Vh.elim
   |exit id=>exact hq.elim
   |goto t=>exact hq.elim
   |ret=>exact hq.elim
   |panic ch=>exact hq.elim
   |outgrown=>exact hq.elim
  refine key.mono ?_;rintro e W2 ⟨v,H',rfl,hor,Wm,Yg⟩;have fin:∀ (st:LoopState) (pe:Option Code) (s:σ) (iN:st≠ .busy),Rel (((l,Blk.obj (.loop (rec st pe)))::cj d::Hx s)++([]++(ap Hr Tr++F))) W2->
    ∃w4,(Instr.endLoop l).run P W2=.ok pe w4/\Rel ((cj d::(Hx s++ap Hr Tr))++F) w4/\Below 0 W1 w4:=by
   intro st pe s iN h4;have h5:Rel ((l,Blk.obj (.loop (rec st pe)))::(cj d::(Hx s++(ap Hr Tr++F)))) W2:=h4;have Vo:W2.heap[l]?=some (.loop (rec st pe)):=h5.holds _ aaD;have f_:=run_endLoop (P:=P) Vo (by rw[UT];exact iN);refine⟨W2.putObj l (.loop { rec st pe with state:=.exhausted }),?_,?_,Yg.trans (dQ)⟩
   ·rw[f_,UT]
   ·have h6:=h5.putObj (F:=[]) (.obj (.loop { rec st pe with state:=.exhausted }));have h7:=Rel.drop (X:=[(l,Blk.obj (.loop { rec st pe with state:=.exhausted }))]) (H:=cj d::(Hx s++(ap Hr Tr++F))) h6;rw[<- aaF] at h7;exact h7
  have hFd:Fm N (coll d::D) L { a with defers:=[coll d]++a.defers }:=⟨hF.size,by rw[hF.defs];rfl,hF.has⟩;rcases hor with ⟨s,hs,rfl⟩|⟨c,s,hs,rfl⟩
  ·obtain⟨w4,k1,k2,k3⟩:=fin .ready none s (by simp) Wm;exact⟨none,w4,k1,UU d s hs _ w4 hFd k2 (hB.trans (hB1.trans k3))⟩
  ·obtain⟨w4,k1,k2,k3⟩:=fin .done (some c) s (by simp) Wm;exact⟨some c,w4,k1,UR d c s hs _ w4 hFd k2 (hB.trans (hB1.trans k3))⟩
theorem Ee{body:Code}{encs:α->Array Value}{xs:List α}(hi:gm L g=true)(hg:eY L g=.func (.func gf) #[] lb)(eg:∀args w,(callFunc gf args).run P w=.ok (.enter gf args) w)
  {Ax:σ->HL} {Tx:σ->List HL} {I:Nat->σ->Prop} (Ix:Code->σ->Prop) (La:τ->FL) (Ha:τ->HL) (Ia:Nat->α->τ->Prop) (hps:∀x,(encs x).size=ps.size) (XF:(ps.toList.all λ p=>decide (p<N))=true)
  {x0:σ} (h0:I 0 x0) {A:HL} {ip ir jp:List Nat} (hp:(ip++ir).isPerm (List.range A.length)=true) (hj:(jp++jr).isPerm (List.range Ts.length)=true) {Hr:HL} {Tr:List HL} (hHr:ir.filterMap (A[·]?)=Hr) (hTr:jr.filterMap (Ts[·]?)=Tr) (hA:ip.filterMap (A[·]?)=Ax x0) (hT:jp.filterMap (Ts[·]?)=Tx x0)
  (hit:It P gf lb (ap Hr Tr++F) encs xs)
  (AS:∀ (l i:Nat) (x:α) (s:σ) (Y:HL) (w1:World),xs[i]?=some x->I i s->TR (some l) P N [] (Y++(ap Hr Tr++F)) w1 (qG ps.toList (encs x).toList L) (ap (Ax s) (Tx s)) assign (Exit.then (OS N [] (Y++(ap Hr Tr++F)) w1 La Ha (Ia i x)) (λ _ _ _=>False)))
  (UW:∀ (l i:Nat) (x:α) (t:τ) (Y:HL) (w1:World),xs[i]?=some x->Ia i x t->TR (some l) P N [] (Y++(ap Hr Tr++F)) w1 (La t) (Ha t) body (RQ (Y++(ap Hr Tr++F)) w1 (λ s=>ap (Ax s) (Tx s)) (I (i+1)) Ix))
  (UU:∀ (d:Nat) (s:σ),I xs.length s->EX N (coll d::D) F w0 L (ap (cj d::(Ax s++Hr)) (Tx s++Tr)) Q .normal)
  (UR:∀ (d:Nat) (c:Code) (s:σ),Ix c s->TR none P N (coll d::D) F w0 L (ap (cj d::(Ax s++Hr)) (Tx s++Tr)) c Q) :
  TR none P N D F w0 L (ap A Ts) (.rangeFunc g ps assign body) Q:=by
 have hpm:∀ (d:Nat) (s:σ),(ap (cj d::(Ax s++Hr)) (Tx s++Tr)).Perm (cj d::(ap (Ax s) (Tx s)++ap Hr Tr)):=λ d s=>by
  show (cj d::((Ax s++Hr)++(Tx s++Tr).flatten)).Perm _;refine List.Perm.cons _ ?_;rw[adA];show ((Ax s++Hr)++((Tx s).flatten++Tr.flatten)).Perm ((Ax s++(Tx s).flatten)++(Hr++Tr.flatten));rw[aaF,aaF];refine abB _ ?_;rw[<- aaF,<- aaF];exact aaT _ aaS
 exact TR.range hi hg eg (λ s=>ap (Ax s) (Tx s)) I Ix La Ha Ia hps XF x0 h0 ip ir jp jr hp hj Hr Tr hHr hTr (by rw[hA,hT]) hit AS UW
  (λ d s hs a w h1 h2 h3=>UU d s hs a w h1 (h2.perm ((hpm d s).append_right F)) h3) (λ d c s hs a w h1 h2 h3=>UR d c s hs a w h1 (h2.perm ((hpm d s).append_right F)) h3)
theorem oI{fn:Func}{tmps:Array Value}{R:Ending->World->Prop}:∀ (ds:List Nat) (H:HL) (w:World),Rel (ds.map cj++H) w->Below 0 w0 w->(∀w',Rel H w'->Below 0 w0 w'->LeavesIn (Wr none) 0 P fn tmps R [] .returning w')->
  LeavesInM (Wr none) 0 P fn tmps R (ds.map coll) .returning w
 | [],H,w,h,hB,hk=>hk w h hB
 |d::ds,H,w,h,hB,hk=>by
  have hd:w.heap[d]?=some (.deferred (some [])):=h.holds (cj d) (by simp);have h1:Rel ((d,Blk.obj (.deferred (some [])))::(ds.map cj++H)) w:=h;have h2:=(h1.putObj (F:=[]) (.obj (.deferred none)));exact⟨by simp,.inl ⟨d,_,rfl,run_takeDeferred hd,oI ds H _ (Rel.drop (X:=[(d,Blk.obj (.deferred none))]) h2) (hB.trans (dQ)) hk⟩⟩
theorem xD{f:FuncId}{c:Code}{args:Array Value}(hf:P.funcs[f]?=some fn)(hb:fn.body=some c)(hn:fn.ntmps=N)(ha:decide (args.size<=N)=true)
  {L:FL} (hL:lI 0 args.toList=L) (h:∀w0,TR none P N [] F w0 L H c (bodyPostM (Wr none) 0 P fn (uh F w0 R))):Sp P f args H F R:=by
 intro w hR;refine(callsIn_wide (n:=0)).1 (callsIn_of_wp_marks (F:=Wr none) hf hb trivial ?_);have ha':args.size<=N:=aa9 ha;refine h w _ w ⟨?_,rfl,?_⟩ hR (go _ _)
 ·simp[hn];omega
 ·subst hL;intro t v ht;obtain⟨_,h2⟩:=kI 0 _ t v ht;have h3:args[t]?=some v:=by simpa using h2
  have g_:t<args.size:=(eb.1 h3).1;simp only;rw[ach g_];exact h3
theorem retM{rs:List ResultVar}(Xr:fn.results=⟨rs⟩)(ds:List Nat)(hD:D=ds.map coll)(dx ax:List Nat)(Ro:HL)(hints:List Hint)(v:Value)(E:List Nat)(Ob:List Prop)
  {A A1:HL} (hdp:(dx++ax).isPerm (List.range A.length)=true) (hdx:dx.filterMap (A[·]?)=ds.map cj) (hax:ax.filterMap (A[·]?)=A1)
  (h:∀n0,AF P n0 L rs (ap A1 Ts) Ro hints=some (v,E,E,Ob)) (hRo:∀y∈Ro,y∈F) (iD:AllP Ob) (ip ir jp jr:List Nat) (H':HL) (hp:(ip++ir).isPerm (List.range A1.length)=true) (hj:(jp++jr).isPerm (List.range Ts.length)=true) (hH:ap (ip.filterMap (A1[·]?)) (jp.filterMap (Ts[·]?))=H') (hv:R v H')
  (a:Act) (w:World) (hF:Fm N D L a) (hR:Rel (ap A Ts++F) w) (hB:Below 0 w0 w):LeavesInM (Wr none) 0 P fn a.tmps (uh F w0 R) a.defers .returning w:=by
 rw[hF.defs,hD];have h1:=fU A hdp;rw[hdx,hax] at h1;have hR1:Rel (ds.map cj++(ap A1 Ts++F)) w:=by
  refine hR.perm ?_;rw[<- aaF,<- aaF];exact aaT F (aaT _ h1)
 refine oI ds _ w hR1 hB ?_;intro w' Wm Yg;have h':=h w'.heap.size;unfold AF at h';split at h'
 case h_2=>cases h'
 rename_i vs s hs;split at h'
 case h_2=>cases h'
 simp only[de,df] at h';obtain⟨e1,e2,e3,e4⟩:=h';have f_:=jW (P:=P) hF Wm rs _ _ _ hs rfl rfl hRo (λ e=>by cases e) (f6 e2 e3) (by rw[e4];exact AllP.mem iD);subst e1;exact⟨_,jB Xr f_,_,H',rfl,hv,Wm.takeT ip ir jp jr hp hj hH,Yg⟩
end
def aay:=@SlIs.nil
end
section
variable {A F T X:HL} {D:List Deferred} {L L':FL} {N n0:Nat} {P:Program} {Q:Exit->Act->World->Prop} {R':Value->HL->Prop} {Ts:List HL} {a:Act} {args:Array Value} {fn:Func} {ip jp:List Nat} {o:Oper} {s s':SS} {w:World} {σ:Type} (i j n:Nat) (b:Bool) (hints:List Hint) (t:Nat) (Ob:List Prop)
theorem GZ{r:Option Nat}{ops:Array Oper}{rest:List Oper}
  (h:xx P n0 N ops.toList [o] L s=some (L',s')) (heq:∀p∈s'.eq,p.1=p.2) (iD:∀p∈s'.ob,p) (hF:Fm N D L a) (hR:Rel (s.h++F) w) (hr:∀y∈s.r,y∈F) (hn:s.wr=true->n0+s.cnt=w.heap.size)
  (hk:∀a' w',Fm N D L' a'->Rel (s'.h++F) w'->Below 0 w w'->s'.wr=s.wr->(s'.wr=true->n0+s'.cnt=w'.heap.size)->wpListIn (Wr r) 0 P ops Q rest a' w'):wpListIn (Wr r) 0 P ops Q (o::rest) a w:=by
 rw[wpListIn];rw[xx] at h;split at h
 ·cases h
 ·rename_i s1 hw;split at h
  case h_2=>cases h
  rename_i L1 hp;rw[xx] at h;cases h;obtain⟨a1,a2,a3,a4⟩:=bE hw;obtain⟨c1,c2,c3⟩:=b6 hw hF iD;rw[if_neg (by rw[c1];simp)];refine⟨λ _ _=>trivial,?_⟩;exact hk _ w (hF.put hp) (by rw[c2];exact hR) (go _ _) a4 (λ e=>by rw[c3];exact hn (a4.symm.trans e))
 ·rename_i s1 hw;split at h
  ·cases h
  rename_i dO;obtain⟨a1,a2,a3,a4⟩:=bE hw;split at h
  ·rename_i v s2 he;split at h
   case h_2=>cases h
   rename_i L1 hp;rw[xx] at h;cases h;obtain⟨d1,d2,d3,d4⟩:=dz he;obtain⟨c1,c2,c3⟩:=b6 hw hF (λ p hp=>iD p (d2 p hp));obtain⟨w1,e1,e2,e3,e4,-⟩:=gQ (w:=w) he heq iD (by rw[c2];exact hR) (by rw[a3];exact hr) (λ e=>by rw[c3];exact hn (a4.symm.trans e));rw[if_pos c1];refine⟨λ _ _=>trivial,?_⟩;rw[hF.sem dO,e1,Oper.uponIn_value];exact hk _ w1 (hF.put hp) e2 e3 (d4.trans a4) (λ e=>e4 (d4.symm.trans e))
  ·rename_i s2 he;split at h
   case h_2=>cases h
   rename_i L1 hp;rw[xx] at h;cases h;obtain⟨d1,d2,d3,d4⟩:=dz he;obtain⟨c1,c2,c3⟩:=b6 hw hF (λ p hp=>iD p (d2 p hp));obtain⟨w1,e1,e2,e3,e4,-⟩:=gQ (w:=w) he heq iD (by rw[c2];exact hR) (by rw[a3];exact hr) (λ e=>by rw[c3];exact hn (a4.symm.trans e));rw[if_pos c1];refine⟨λ _ _=>trivial,?_⟩;rw[hF.sem dO,e1,Oper.uponIn_skip];exact hk _ w1 (hF.put hp) e2 e3 (d4.trans a4) (λ e=>e4 (d4.symm.trans e))
  ·cases h
inductive KI where
 |thn (y:Code)
 |blk (id:Nat)
 |scp
 |met (K:Act->World->Prop)
 |rnd (c:Code) (n:Nat)
inductive Fo where
 |code (c:Code)
 |ops (ops:Array Oper) (i:Nat)
 |ex (e:Exit)
 |drw (ops:Array Oper) (listed:List Bool)
structure Cfg where
 c:Fo
 k:List KI
 L:FL
 A:HL
 Ts:List HL
def vV(r:Option Nat)(P:Program)(c:Code)(Q:Exit->Act->World->Prop):Nat->Act->World->Prop
 |0,_,_=>False
 |n+1,a,w=>c.wpIn (Wr r) 0 P (Exit.then (vV r P c Q n) Q) a w
def lL(r:Option Nat)(P:Program):List KI->(Exit->Act->World->Prop)->Exit->Act->World->Prop
 | [],Q=>Q
 | .thn y::k,Q=>Exit.then (y.wpIn (Wr r) 0 P (lL r P k Q)) (lL r P k Q)
 | .blk id::k,Q=>Exit.inBlock id (lL r P k Q)
 | .scp::k,Q=>Exit.noGoto (lL r P k Q)
 | .met K::k,Q=>Exit.then K (lL r P k Q)
 | .rnd c n::k,Q=>Exit.then (vV r P c (lL r P k Q) n) (lL r P k Q)
def Wf(r:Option Nat)(P:Program)(Q:Exit->Act->World->Prop)(c:Fo)(k:List KI)(a:Act)(w:World):Prop:=match c with
 | .code c=>c.wpIn (Wr r) 0 P (lL r P k Q) a w
 | .ops ops i=>wpListIn (Wr r) 0 P ops (lL r P k Q) (ops.toList.drop i) a w
 | .ex e=>lL r P k Q e a w
 | .drw _ _=>False
def stp(P:Program)(n0 N:Nat)(c:Fo)(k:List KI)(L:FL)(s:SS):Option (Fo×List KI×FL×SS):=match c with
 | .code (.seq x y)=>some (.code x,.thn y::k,L,s)
 | .code (.region _ ops false)=>some (.ops ops 0,k,L,s)
 | .code (.block id c)=>some (.code c,.blk id::k,L,s)
 | .code .skip=>some (.ex .normal,k,L,s)
 | .code (.exit id)=>some (.ex (.exit id),k,L,s)
 | .code (.scope c)=>some (.code c,.scp::k,L,s)
 | .code (.label _)=>some (.ex .normal,k,L,s)
 | .code (.cond c x y)=>match gm L c,eY L c with
  |true,.bool b=>match s.hints with
   | .gd v::hs=>some (.code (if v then x else y),k,L,{ s with hints:=hs,ob:=(b=v)::s.ob })
   |_=>some (.code (if b then x else y),k,L,s)
  |_,_=>none
 | .ops ops i=>match ops.toList[i]? with
  |none=>some (.ex .normal,k,L,s)
  |some o=>match xx P n0 N ops.toList [o] L s with
   |some (L,s)=>some (.ops ops (i+1),k,L,s)
   |none=>none
 | .ex .normal=>match k with
  | .thn y::k=>some (.code y,k,L,s)
  | .blk _::k=>some (.ex .normal,k,L,s)
  | .scp::k=>some (.ex .normal,k,L,s)
  | .rnd c (n+1)::k=>some (.code c,.rnd c n::k,L,s)
  |_=>none
 | .ex (.exit id)=>match k with
  | .thn _::k=>some (.ex (.exit id),k,L,s)
  | .blk XU::k=>some (.ex (if id=XU then .normal else .exit id),k,L,s)
  | .scp::k=>some (.ex (.exit id),k,L,s)
  | .met _::k=>some (.ex (.exit id),k,L,s)
  | .rnd _ _::k=>some (.ex (.exit id),k,L,s)
  | []=>none
 |_=>none
theorem AP{ops:List Oper}(h:xx P n0 N ops [o] L s=some (L',s')):s'.wr=s.wr:=by
 rw[xx] at h;split at h
 ·cases h
 ·rename_i s1 hw;split at h
  case h_2=>cases h
  rw[xx] at h;cases h;exact(bE hw).2.2.2
 ·rename_i s1 hw;split at h
  ·cases h
  split at h
  ·rename_i v s2 he;split at h
   case h_2=>cases h
   rw[xx] at h;cases h;exact(dz he).2.2.2.trans (bE hw).2.2.2
  ·rename_i s2 he;split at h
   case h_2=>cases h
   rw[xx] at h;cases h;exact(dz he).2.2.2.trans (bE hw).2.2.2
  ·cases h
theorem ui{c c':Fo}{k k':List KI}(h:stp P n0 N c k L s=some (c',k',L',s')):(∀p∈s.eq,p∈s'.eq)/\(∀p∈s.ob,p∈s'.ob)/\s'.r=s.r/\s'.wr=s.wr:=by
 have Za:(∀p∈s.eq,p∈s.eq)/\(∀p∈s.ob,p∈s.ob)/\s.r=s.r/\s.wr=s.wr:=⟨λ _ h=>h,λ _ h=>h,rfl,rfl⟩;unfold stp at h;split at h
 case h_8=>
  split at h
  ·split at h
   ·cases h;exact⟨λ _ h=>h,λ _ h=>aaE _ h,rfl,rfl⟩
   ·cases h;exact Za
  ·cases h
 case h_9=>
  split at h
  ·cases h;exact Za
  ·split at h
   ·rename_i hs;cases h;obtain⟨b1,b2,b3⟩:=mw _ _ _ _ _ hs;exact⟨b1,b2,b3,AP hs⟩
   ·cases h
 case h_10=>split at h <;> first|(cases h;done)|(cases h;exact Za)
 case h_11=>split at h <;> first|(cases h;done)|(cases h;exact Za)
 all_goals first|(cases h;done)|(cases h;exact Za)
theorem Eg{r:Option Nat}{c c':Fo}{k k':List KI}
  (h:stp P n0 N c k L s=some (c',k',L',s')) (heq:∀p∈s'.eq,p.1=p.2) (iD:∀p∈s'.ob,p) (hF:Fm N D L a) (hR:Rel (s.h++F) w) (hr:∀y∈s.r,y∈F) (hn:s.wr=true->n0+s.cnt=w.heap.size)
  (hk:∀a' w',Fm N D L' a'->Rel (s'.h++F) w'->Below 0 w w'->(s'.wr=true->n0+s'.cnt=w'.heap.size)->Wf r P Q c' k' a' w'):Wf r P Q c k a w:=by
 have B:=go 0 w;unfold stp at h;split at h
 ·cases h;exact wpIn_seq (hk a w hF hR B hn)
 ·cases h;exact wpIn_region_list (by simpa [Wf] using hk a w hF hR B hn)
 ·cases h;exact wpIn_block (hk a w hF hR B hn)
 ·cases h;exact wpIn_skip (hk a w hF hR B hn)
 ·cases h;exact wpIn_exit (hk a w hF hR B hn)
 ·cases h;exact iB (hk a w hF hR B hn)
 ·cases h;exact wpIn_label (hk a w hF hR B hn)
 ·split at h
  ·rename_i b hi hc;have e:=hF.eval hi;rw[hc] at e;split at h
   ·rename_i v hs hh;cases h;have hb:b=v:=iD _ aaD;subst hb;cases b
    ·exact wpIn_cond_false e (hk a w hF hR B hn)
    ·exact wpIn_cond_true e (hk a w hF hR B hn)
   ·cases h;cases b
    ·exact wpIn_cond_false e (hk a w hF hR B hn)
    ·exact wpIn_cond_true e (hk a w hF hR B hn)
  ·cases h
 ·split at h
  ·rename_i ho;cases h;show wpListIn _ _ _ _ _ _ _ _;rw[ab4 (List.getElem?_eq_none_iff.1 ho)];exact hk a w hF hR B hn
  ·rename_i o ho;split at h
   ·rename_i hs;cases h;show wpListIn _ _ _ _ _ _ _ _;have g_:=(bt.1 ho).1;rw[eB g_,(bt.1 ho).2];exact GZ hs heq iD hF hR hr hn (λ a' w' h1 h2 h3 _ h4=>hk a' w' h1 h2 h3 h4)
   ·cases h
 ·split at h
  ·cases h;exact hk a w hF hR B hn
  ·cases h;exact hk a w hF hR B hn
  ·cases h;exact hk a w hF hR B hn
  ·cases h;exact hk a w hF hR B hn
  ·cases h
 ·split at h
  ·cases h;exact hk a w hF hR B hn
  ·cases h;have h2:=hk a w hF hR B hn;unfold Wf at h2;show (if _=_ then _ else _);split
   ·rename_i e;rw[if_pos e] at h2;exact h2
   ·rename_i e;rw[if_neg e] at h2;exact h2
  ·cases h;exact hk a w hF hR B hn
  ·cases h;exact hk a w hF hR B hn
  ·cases h;exact hk a w hF hR B hn
  ·cases h
 ·cases h
def adv(P:Program)(n0 N:Nat):Nat->Fo->List KI->FL->SS->Option (Fo×List KI×FL×SS)
 |0,c,k,L,s=>some (c,k,L,s)
 |n+1,c,k,L,s=>match stp P n0 N c k L s with
  |some (c,k,L,s)=>adv P n0 N n c k L s
  |none=>none
theorem uj{P:Program}{n0 N:Nat}:∀ (n:Nat) {c c':Fo} {k k':List KI} {L L':FL} {s s':SS},adv P n0 N n c k L s=some (c',k',L',s')->(∀p∈s.eq,p∈s'.eq)/\(∀p∈s.ob,p∈s'.ob)/\s'.r=s.r/\s'.wr=s.wr
 |0,_,_,_,_,_,_,s,s',h=>by rw[adv] at h;cases h;exact⟨λ _ h=>h,λ _ h=>h,rfl,rfl⟩
 |n+1,_,_,_,_,_,_,s,s',h=>by
  rw[adv] at h;split at h
  ·rename_i hs;obtain⟨a1,a2,a3,a4⟩:=ui hs;obtain⟨b1,b2,b3,b4⟩:=uj n h;exact⟨λ p hp=>b1 p (a1 p hp),λ p hp=>b2 p (a2 p hp),b3.trans a3,b4.trans a4⟩
  ·cases h
theorem uk{r:Option Nat}{P:Program}{n0 N:Nat}{D:List Deferred}{F:HL}{Q:Exit->Act->World->Prop}:∀ (n:Nat) {c c':Fo} {k k':List KI} {L L':FL} {s s':SS} {a:Act} {w:World},adv P n0 N n c k L s=some (c',k',L',s')->(∀p∈s'.eq,p.1=p.2)->(∀p∈s'.ob,p)->Fm N D L a->Rel (s.h++F) w->(∀y∈s.r,y∈F)->(s.wr=true->n0+s.cnt=w.heap.size)->
  (∀a' w',Fm N D L' a'->Rel (s'.h++F) w'->Below 0 w w'->Wf r P Q c' k' a' w')->Wf r P Q c k a w
 |0,_,_,_,_,_,_,s,s',a,w,h,heq,iD,hF,hR,hr,hn,hk=>by rw[adv] at h;cases h;exact hk a w hF hR (go _ _)
 |n+1,_,_,_,_,_,_,s,s',a,w,h,heq,iD,hF,hR,hr,hn,hk=>by
  rw[adv] at h;split at h
  ·rename_i hs;obtain⟨a1,a2,a3,a4⟩:=ui hs;obtain⟨b1,b2,b3,b4⟩:=uj n h;exact Eg hs (λ p hp=>heq p (b1 p hp)) (λ p hp=>iD p (b2 p hp)) hF hR hr hn (λ a' w' h1 h2 h3 h4=>uk n h heq iD h1 h2 (by rw[a3];exact hr) h4 (λ a2 w2 k1 k2 k3=>hk a2 w2 k1 k2 (h3.trans k3)))
  ·cases h
structure RN(r:Option Nat)(P:Program)(N:Nat)(D:List Deferred)(F:HL)(w0:World)(R:HL)(s:Cfg)(Q:Exit->Act->World->Prop):Prop where
 h:(∀y∈R,y∈F)->∀a w,Fm N D s.L a->Rel (ap s.A s.Ts++F) w->Below 0 w0 w->Wf r P Q s.c s.k a w
def oJ(P:Program)(n0 N n:Nat)(R:HL)(hints:List Hint)(s:Cfg):Option (Fo×List KI×FL×SS):=adv P n0 N n s.c s.k s.L ⟨s.A,R,hints,0,[],[],true⟩
def AQ(P:Program)(n0 N n:Nat)(R:HL)(hints:List Hint)(s:Cfg):Cfg:=match oJ P n0 N n R hints s with
 |some (c,k,L,ss)=>⟨c,k,L,ss.h,s.Ts⟩
 |none=>s
def AU(x:Option (Fo×List KI×FL×SS)):List Nat:=match x with
 |some (_,_,_,ss)=>ss.eq.map (·.2)
 |none=>[]
def AV(x:Option (Fo×List KI×FL×SS)):Option (List Nat×List Prop):=match x with
 |some (_,_,_,ss)=>match ss.hints with
  | []=>some (ss.eq.map (·.1),ss.ob)
  |_=>none
 |none=>none
theorem eF(A:HL)(Ts:List HL)(F:HL):ap A Ts++F=A++(Ts.flatten++F):=aaF _ _ _
theorem aw{x:Nat×Blk}(h:A[i]?=some x:=by kernel_rfl):x∈ap A Ts++F:=aaC _ (aaC _ (np h))
theorem fD{x:Nat×Blk}(h:A[i]?=some x:=by kernel_rfl):x∈X++(ap A Ts++F):=aaB _ (aw i h)
theorem ay(h:Ts[j]?=some T:=by kernel_rfl):∀x∈T,x∈ap A Ts++F:=λ x hx=>
 aaC _ (aaB _ (List.mem_flatten.2 ⟨T,np h,hx⟩))
theorem aY(h:Ts[j]?=some T:=by kernel_rfl):∀x∈T,x∈X++(ap A Ts++F):=λ x hx=>aaB _ (ay j h x hx)
theorem aC{x:Nat×Blk}(h:x∈F):x∈ap A Ts++F:=aaB _ h
theorem AW{x:Nat×Blk}(h:x∈F):x∈X++(ap A Ts++F):=aaB _ (aaB _ h)
def ow(p n:Nat):List Hint:=List.replicate n (.o p)
def aab(n:Nat):List Hint:=List.replicate n (.o 0)
abbrev aI(n:Int):Prop:=-9223372036854775808<=n/\n<=9223372036854775807
section
variable {r:Option Nat} {P:Program} {N:Nat} {D:List Deferred} {F:HL} {w0:World} {R:HL} {s:Cfg} {Q:Exit->Act->World->Prop}
theorem rH(Ob:Nat->List Prop)(iD:∀n0,AllP (Ob n0))(hk:∀n0,RN r P N D F w0 R (AQ P n0 N n R hints s) Q)
  (h:∀n0,AV (oJ P n0 N n R hints s)=some (AU (oJ P n0 N n R hints s),Ob n0):=by intro n0;kernel_rfl):RN r P N D F w0 R s Q:=by
 refine⟨λ hR a w hF aT hB=>?_⟩;have h':=h w.heap.size;have XI:=(hk w.heap.size).h hR;unfold AQ at XI;generalize hx:oJ P w.heap.size N n R hints s=x at h' XI;unfold AV at h';split at h'
 case h_2=>cases h'
 rename_i c k L ss;split at h'
 case h_2=>cases h'
 simp only[AU,de,df] at h';obtain⟨e1,e2⟩:=h';rw[eF] at aT;refine uk n hx (f6 e1 rfl) (by rw[e2];exact AllP.mem (iD _)) hF aT (λ y hy=>aaB _ (hR y hy)) (λ _=>rfl) ?_;intro a' w' h1 h2 h3;exact XI a' w' h1 (by rw[eF];exact h2) (hB.trans h3)
theorem ae(hk:∀n0,RN r P N D F w0 R (AQ P n0 N n R hints s) Q)
 (h:∀n0,AV (oJ P n0 N n R hints s)=some (AU (oJ P n0 N n R hints s),[]):=by intro n0;kernel_rfl):RN r P N D F w0 R s Q:=rH n hints (λ _=>[]) (λ _=>trivial) hk h
theorem ah(hk:∀n0,RN r P N D F w0 R (AQ P n0 N n R hints s) Q)(iD:AllP Ob:=by simp only[AllP,aI,and_true,true_and] <;> (repeat' with_reducible refine And.intro ?_ ?_) <;> omega)
 (h:∀n0,AV (oJ P n0 N n R hints s)=some (AU (oJ P n0 N n R hints s),Ob):=by intro n0;kernel_rfl):RN r P N D F w0 R s Q:=rH n hints (λ _=>Ob) (λ _=>iD) hk h
theorem OU(hk:∀ {n0},RN r P N D F w0 R (AQ P n0 N n R [] s) Q)
 (h:∀n0,AV (oJ P n0 N n R [] s)=some (AU (oJ P n0 N n R [] s),[]):=by intro n0;kernel_rfl):RN r P N D F w0 R s Q:=ae n [] (λ _=>hk) h
theorem SO(hk:∀ {n0},RN r P N D F w0 R (AQ P n0 N n R hints s) Q)
 (h:∀n0,AV (oJ P n0 N n R hints s)=some (AU (oJ P n0 N n R hints s),[]):=by intro n0;kernel_rfl):RN r P N D F w0 R s Q:=ae n hints (λ _=>hk) h
def qH(t:Nat)(b:Bool)(s:Cfg):Cfg:=match s with
 | ⟨c,k,L,A,Ts⟩=>⟨c,k,(t,.bool b)::L,A,Ts⟩
theorem Fm.fix{t:Nat}{v:Value}(hF:Fm N D L a)(h:L.lookup t=some v):Fm N D ((t,v)::L) a:=⟨hF.size,hF.defs,λ t' v' h'=>by
 rw[acT] at h'
 by_cases e:t'=t
 ·subst e;simp at h';subst h';exact hF.has _ _ h
 ·have:(t' == t)=false:=by simpa using e
  rw[this] at h';exact hF.has _ _ h'⟩
theorem RN.fx{b v:Bool}(t:Nat)(hb:b=v)(hk:RN r P N D F w0 R (qH t v s) Q)(h:s.L.lookup t=some (.bool b):=by kernel_rfl):RN r P N D F w0 R s Q:=by
 subst hb;exact⟨λ hR a w h1 h2 h3=>hk.h hR a w (h1.fix h) h2 h3⟩
theorem RN.em(p:Prop)[Decidable p](t:Nat)(h1:p->RN r P N D F w0 R (qH t true s) Q)(h2:¬ p->RN r P N D F w0 R (qH t false s) Q)(h:s.L.lookup t=some (.bool (decide p)):=by kernel_rfl):RN r P N D F w0 R s Q:=by
 by_cases hp:p
 ·exact RN.fx t (abk hp) (h1 hp) h
 ·exact RN.fx t (abh hp) (h2 hp) h
theorem RN.en(p:Prop)[Decidable p](t:Nat)(h1:p->RN r P N D F w0 R (qH t false s) Q)(h2:¬ p->RN r P N D F w0 R (qH t true s) Q)(h:s.L.lookup t=some (.bool (!decide p)):=by kernel_rfl):RN r P N D F w0 R s Q:=by
 by_cases hp:p
 ·exact RN.fx t (by simp[hp]) (h1 hp) h
 ·exact RN.fx t (by simp[hp]) (h2 hp) h
theorem cP(h1:b=true->RN r P N D F w0 R (qH t true s) Q)(h2:¬ b=true->RN r P N D F w0 R (qH t false s) Q)(h:s.L.lookup t=some (.bool b):=by kernel_rfl):RN r P N D F w0 R s Q:=by
 by_cases hp:b=true
 ·exact RN.fx t hp (h1 hp) h
 ·exact RN.fx t (acp.2 hp) (h2 hp) h
theorem oK(h1:b=true->RN r P N D F w0 R (qH t false s) Q)(h2:¬ b=true->RN r P N D F w0 R (qH t true s) Q)(h:s.L.lookup t=some (.bool (!b)):=by kernel_rfl):RN r P N D F w0 R s Q:=by
 by_cases hp:b=true
 ·exact RN.fx t (by simp[hp]) (h1 hp) h
 ·exact RN.fx t (by simp[hp]) (h2 hp) h
theorem nt{b:Bool}(h:b=true):(!b)=false:=by rw[h];rfl
theorem nf{b:Bool}(h:b=false):(!b)=true:=by rw[h];rfl
theorem Fm.sub{a:Act}{L:FL}:∀ {Lx:FL},Fm N D L a->Lx.map (λ p=>L.lookup p.1)=Lx.map (λ p=>some p.2)->Fm N D Lx a
 | [],hF,_=>⟨hF.size,hF.defs,λ t v h=>by cases h⟩
 |p::Lx,hF,h=>by
  simp only[ab7,aeh] at h;have ih:=Fm.sub hF h.2;refine⟨hF.size,hF.defs,λ t v h'=>?_⟩;rw[acT] at h'
  by_cases e:t=p.1
  ·subst e;simp at h';subst h';exact hF.has _ _ h.1
  ·have:(t == p.1)=false:=by simpa using e
   rw[this] at h';exact ih.has _ _ h'
theorem RN.ro{R':HL}(h:(∀y∈R,y∈F)->∀y∈R',y∈F)(hk:RN r P N D F w0 R' s Q):RN r P N D F w0 R s Q:=⟨λ hR=>hk.h (h hR)⟩
end
theorem b7{dst:Option Tmp}(h:(dK N dst undef L).isSome=true)(v:Value):∃L',dK N dst v L=some L':=by
 cases dst with
 |none=>exact⟨L,rfl⟩
 |some t=>
  unfold dK at h ⊢;simp only at h ⊢;split at h
  ·exact⟨_,rfl⟩
  ·cases h
def xE(P:Program)(n0 N:Nat)(R:HL)(s:Cfg):Option (Option Tmp×FuncId×Array Value×HL×List Nat×List Nat×List Prop):=match s.c with
 | .ops ops i=>oG P n0 N ops.toList i s.L s.A R []
 |_=>none
def jD(N:Nat)(s:Cfg)(x:Option (Option Tmp×FuncId×Array Value×HL×List Nat×List Nat×List Prop)):Option (FuncId×Array Value×List Prop×List Nat×HL):=match x with
 |some (dst,f,args,H,E,_,Ob)=>match (dK N dst undef s.L).isSome with
  |true=>some (f,args,Ob,E,H)
  |false=>none
 |none=>none
def db(N:Nat)(v:Value)(s:Cfg):Cfg:=match s with
 | ⟨.ops ops i,k,L,A,Ts⟩=>match ops.toList[i]? with
  |some o=>match dK N o.dst v L with
   |some L'=>⟨.ops ops (i+1),k,L',A,Ts⟩
   |none=>⟨.ops ops i,k,L,A,Ts⟩
  |none=>⟨.ops ops i,k,L,A,Ts⟩
 |s=>s
theorem G1{α:Type}(l:List α):(List.range l.length).filterMap (l[·]?)=l:=by
 induction l with
 |nil=>rfl
 |cons x l ih=>
  rw[aaN,List.range_succ_eq_map,acK];simp only[acd,List.filterMap_map];congr 1
def oth(ip:List Nat)(n:Nat):List Nat:=(List.range n).filter λ i=>!(ip.contains i)
def vW(A:HL->HL)(Ts:List HL->List HL)(s:Cfg):Cfg:=match s with
 | ⟨c,k,L,A',XP⟩=>⟨c,k,L,A A',Ts XP⟩
section
variable {r:Option Nat} {P:Program} {N:Nat} {D:List Deferred} {F:HL} {w0:World} {R:HL} {s:Cfg} {Q:Exit->Act->World->Prop}
theorem qi{f:FuncId}{Hp Hr:HL}{Rv:Value->HL->Prop}
  (h:∀n0,jD N s (xE P n0 N R s)=some (f,args,[],[],s.A)) (hp:(Hp++Hr).Perm (ap s.A s.Ts)) (hc:(∀y∈R,y∈F)->Sp P f args Hp (Hr++F) Rv)
  (hk:(∀y∈R,y∈F)->∀v H',Rv v H'->∀a w,Fm N D (db N v s).L a->Rel ((H'++Hr)++F) w->Below 0 w0 w->Wf r P Q (db N v s).c (db N v s).k a w):RN r P N D F w0 R s Q:=by
 refine⟨λ hR a w hF aT hB=>?_⟩;have h1:=h w.heap.size;obtain⟨c,k,L,A,Ts⟩:=s;unfold xE at h1;simp only at h1 hF aT hp;cases c with
 |code c=>simp[jD] at h1
 |ex e=>simp[jD] at h1
 |drw _ _=>simp[jD] at h1
 |ops ops i=>
  simp only at h1;generalize hx:oG P w.heap.size N ops.toList i L A R []=x at h1;unfold jD at h1;split at h1
  case h_2=>cases h1
  rename_i dst f' iS H1 E E' Ob';split at h1
  case h_2=>cases h1
  rename_i X3;simp only[de,df] at h1;obtain⟨e1,e2,e3,e4,e5⟩:=h1;subst e1;subst e2;subst e3;subst e4;subst e5;obtain⟨o,s1,s',ho,hw,dO,XK,hd,hh,g1,g2,g3⟩:=iZ hx;have iF:ops.toList.drop i=o::ops.toList.drop (i+1):=by
   have g_:i<ops.toList.length:=(bt.1 ho).1;rw[eB g_,(bt.1 ho).2]
  show wpListIn _ _ _ _ _ _ _ _;rw[iF,wpListIn];obtain⟨d1,d2,d3,d4⟩:=dz XK;obtain⟨a1,a2,a3,a4⟩:=bE hw;have Vz:∀p∈s'.ob,p:=by rw[g3];intro p hp;cases hp
  have ac0:∀p∈s'.eq,p.1=p.2:=by
   have:s'.eq=[]:=by simpa using g1
   rw[this];intro p hp;cases hp
  obtain⟨c1,c2,c3⟩:=b6 hw hF (λ p hp=>Vz p (d2 p hp));rw[eF] at aT;obtain⟨w1,r1,r2,r3,r4,-⟩:=gQ (w:=w) (F:=Ts.flatten++F) XK ac0 Vz (by rw[c2];exact aT) (by rw[a3];exact λ y hy=>aaB _ (hR y hy)) (λ _=>by rw[c3];rfl);rw[if_pos c1];refine⟨λ _ _=>trivial,?_⟩;rw[hF.sem dO,r1,Oper.uponIn_enter];refine⟨λ h=>(by cases h),?_⟩;rw[hh,<- eF] at r2;have r2':Rel (Hp++(Hr++F)) w1:=by rw[<- aaF];exact r2.perm (hp.append_right F)
  refine jV ((hc hR w1 r2').mono ?_);rintro e w2 ⟨v,H',rfl,hv,Wm,Yg⟩;have hh2:=hk hR v H' hv;obtain⟨L',hl⟩:=b7 X3 v;have UF:db N v ⟨.ops ops i,k,L,H1,Ts⟩=⟨.ops ops (i+1),k,L',H1,Ts⟩:=by
   unfold db;simp only[ho,hd,hl]
  rw[UF] at hh2;rw[hd];exact hh2 _ w2 (hF.put hl) (by rw[aaF];exact Wm) (hB.trans (r3.trans Yg))
theorem qX{N:Nat}{v:Value}{s:Cfg}:(db N v s).A=s.A/\(db N v s).Ts=s.Ts:=by
 unfold db;split
 ·split
  ·split <;> exact⟨rfl,rfl⟩
  ·exact⟨rfl,rfl⟩
 ·exact⟨rfl,rfl⟩
theorem RN.cp{f:FuncId}{args:Array Value}{v:Value}(hc:Sp P f args [] (ap s.A s.Ts++F) (λ u H'=>u=v/\H'=[]))(hk:RN r P N D F w0 R (db N v s) Q)
  (h:∀n0,jD N s (xE P n0 N R s)=some (f,args,[],[],s.A):=by intro n0;kernel_rfl):RN r P N D F w0 R s Q:=by
 refine qi (Hp:=[]) (Hr:=ap s.A s.Ts) h (List.Perm.refl _) (λ _=>hc) ?_;rintro hR u H' ⟨rfl,rfl⟩ a w h1 h2 h3;exact hk.h hR a w h1 (by rw[qX.1,qX.2];exact h2) h3
def eR(ip:List Nat)(s:Cfg):HL:=(oth ip s.A.length).filterMap (s.A[·]?)
def fE(jp:List Nat)(s:Cfg):List HL:=(oth jp s.Ts.length).filterMap (s.Ts[·]?)
def OV(N:Nat)(ip jp:List Nat)(Hq:HL)(Tq:List HL)(v:Value)(s:Cfg):Cfg:=vW (λ A=>Hq++(oth ip A.length).filterMap (A[·]?)) (λ Ts=>Tq++(oth jp Ts.length).filterMap (Ts[·]?)) (db N v s)
theorem qY{A:HL->HL}{Ts:List HL->List HL}{s:Cfg}:(vW A Ts s).A=A s.A/\(vW A Ts s).Ts=Ts s.Ts/\(vW A Ts s).L=s.L/\(vW A Ts s).c=s.c/\(vW A Ts s).k=s.k:=⟨rfl,rfl,rfl,rfl,rfl⟩
def bC(ip jp:List Nat)(s:Cfg):Bool:=(ip++oth ip s.A.length).isPerm (List.range s.A.length) && (jp++oth jp s.Ts.length).isPerm (List.range s.Ts.length)
def picks(ip jp:List Nat)(s:Cfg):HL×List HL:=(ip.filterMap (s.A[·]?),jp.filterMap (s.Ts[·]?))
theorem RN.ct{τ:Type}(ip jp:List Nat){f:FuncId}{args:Array Value}{Hp:HL}{Tp:List HL}{Hq:τ->HL}{Tq:τ->List HL}{Rv:Value->τ->Prop}
  (hc:Sp P f args (ap Hp Tp) (ap (eR ip s) (fE jp s)++F) (λ v H'=>∃x,H'=ap (Hq x) (Tq x)/\Rv v x)) (hk:∀v x,Rv v x->RN r P N D F w0 R (OV N ip jp (Hq x) (Tq x) v s) Q)
  (h:∀n0,jD N s (xE P n0 N R s)=some (f,args,[],[],s.A):=by intro n0;kernel_rfl)
  (hp:bC ip jp s=true:=by kernel_rfl) (hH:picks ip jp s=(Hp,Tp):=by kernel_rfl):RN r P N D F w0 R s Q:=by
 unfold bC at hp;unfold picks at hH;rw[aaW] at hp;simp only[df] at hH;obtain⟨e1,e2⟩:=hH;refine qi (Hp:=ap Hp Tp) (Hr:=ap (eR ip s) (fE jp s)) h ?_ (λ _=>hc) ?_
 ·have h1:=my s.A s.Ts hp.1 hp.2;rw[e1,e2] at h1;exact h1
 ·rintro hR v H' ⟨x,rfl,hv⟩ a w h1 h2 h3;refine(hk v x hv).h hR a w h1 ?_ h3;unfold OV;rw[qY.1,qY.2.1,qX.1,qX.2];refine h2.perm ?_;rw[aaF (ap (Hq x) (Tq x))];exact(vR _ _ _).symm
theorem Sp.run{f:FuncId}{fn:Func}{c:Code}{args:Array Value}{H:HL}{R':Value->HL->Prop}(hf:P.funcs[f]?=some fn)(hb:fn.body=some c)(hR:∀y∈R,y∈F){A:HL}{Ts:List HL}(hH:H=ap A Ts)
  (h:∀w0,RN none P fn.ntmps [] F w0 R ⟨.code c,[],lI 0 args.toList,A,Ts⟩ (bodyPost P fn (uh F w0 R'))) (ha:decide (args.size<=fn.ntmps)=true:=by kernel_rfl):Sp P f args H F R':=by
 subst hH;exact AE hf hb rfl ha rfl λ w0=>(h w0).h hR
def um(fn:Func):Code:=match fn.body with
 |some c=>c
 |none=>.ret
theorem rI{f:FuncId}(hf:P.funcs[f]?=some fn)(hR:∀y∈R,y∈F)(A:HL)(Ts:List HL)
  (h:∀ {w0},RN none P fn.ntmps [] F w0 R ⟨.code (um fn),[],lI 0 args.toList,A,Ts⟩ (bodyPost P fn (uh F w0 R'))) (hb:fn.body.isSome=true:=by kernel_rfl)
  (ha:decide (args.size<=fn.ntmps)=true:=by kernel_rfl):Sp P f args (ap A Ts) F R':=by
 obtain⟨c,hc⟩:=aco.1 hb;have e:um fn=c:=by unfold um;rw[hc]
 rw[e] at h;exact Sp.run hf hc hR rfl (λ _=>h) ha
theorem QS{f:FuncId}(hf:P.funcs[f]?=some fn)(hR:∀y∈R,y∈F)
 (h:∀ {w0},RN none P fn.ntmps [] F w0 R ⟨.code (um fn),[],lI 0 args.toList,A,Ts⟩ (bodyPost P fn (uh F w0 R'))) (hb:fn.body.isSome=true:=by kernel_rfl)
 (ha:decide (args.size<=fn.ntmps)=true:=by kernel_rfl):Sp P f args (ap A Ts) F R':=rI hf hR A Ts h hb ha
theorem QT{f:FuncId}(hf:P.funcs[f]?=some fn)
 (h:∀ {w0},RN none P fn.ntmps [] F w0 [] ⟨.code (um fn),[],lI 0 args.toList,[],[]⟩ (bodyPost P fn (uh F w0 R'))) (hb:fn.body.isSome=true:=by kernel_rfl)
 (ha:decide (args.size<=fn.ntmps)=true:=by kernel_rfl):Sp P f args [] F R':=rI hf mn [] [] h hb ha
theorem QU{f:FuncId}{x:Nat×Blk}(hf:P.funcs[f]?=some fn)(hx:x∈F)
 (h:∀ {w0},RN none P fn.ntmps [] F w0 [x] ⟨.code (um fn),[],lI 0 args.toList,[],[]⟩ (bodyPost P fn (uh F w0 R'))) (hb:fn.body.isSome=true:=by kernel_rfl)
 (ha:decide (args.size<=fn.ntmps)=true:=by kernel_rfl):Sp P f args [] F R':=rI hf (mc hx mn) [] [] h hb ha
theorem i8{r:Option Nat}{P:Program}{a:Act}{w:World}:∀ (k:List KI) {Q:Exit->Act->World->Prop},Q .ret a w->lL r P k Q .ret a w
 | [],_,h=>h
 | .thn _::k,_,h=>i8 k h
 | .blk _::k,_,h=>i8 k h
 | .scp::k,_,h=>i8 k h
 | .met _::k,_,h=>i8 k h
 | .rnd _ _::k,_,h=>i8 k h
def kJ(s:Cfg):Bool:=match s.c,s.k with
 | .code .ret,_=>true
 | .ex .normal,[]=>true
 |_,_=>false
theorem pv(h:kJ s=true)(h1:Q .ret a w)(h2:Q .normal a w):Wf r P Q s.c s.k a w:=by
 obtain⟨c,k,L,A,Ts⟩:=s;unfold kJ at h;split at h
 ·rename_i h0;simp only at h0;subst h0;exact wpIn_ret (i8 k h1)
 ·rename_i h0 h3;simp only at h0 h3;subst h0;subst h3;exact h2
 ·cases h
def lD(x:Option (Value×List Nat×List Nat×List Prop)):List Nat:=match x with
 |some (_,E,_,_)=>E
 |none=>[]
def gS(P:Program)(n0:Nat)(rs:List ResultVar)(R:HL)(hints:List Hint)(s:Cfg):Option (Value×List Nat×List Nat×List Prop):=AF P n0 s.L rs (ap s.A s.Ts) R hints
theorem L0(iD:AllP Ob){v:Value}{H':HL}(hv:R' v H')
  (hc:kJ s=true:=by kernel_rfl) (h:∀n0,gS P n0 fn.results.toList R hints s=some (v,lD (gS P n0 fn.results.toList R hints s),lD (gS P n0 fn.results.toList R hints s),Ob):=by intro n0;kernel_rfl)
  (hp:bC ip jp s=true:=by kernel_rfl) (hH:ap (picks ip jp s).1 (picks ip jp s).2=H':=by kernel_rfl):RN r P N [] F w0 R s (bodyPost P fn (uh F w0 R')):=by
 unfold bC at hp;unfold picks at hH;refine⟨λ hR a w hF aT hB=>?_⟩;rw[aaW] at hp;have h':=h w.heap.size;unfold gS AF at h';split at h'
 case h_2=>cases h'
 rename_i vs ss hs;split at h'
 case h_2=>cases h'
 simp only[lD,de,df] at h';obtain⟨e1,-,e3,e4⟩:=h';have f_:=jW (P:=P) hF aT fn.results.toList _ _ _ hs rfl rfl hR (λ e=>by cases e) (f6 rfl e3) (by rw[e4];exact AllP.mem iD);have hh:a.defers=[]/\∃v' ,(results fn a.tmps).run P w=.ok v' w/\uh F w0 R' (.returned v') w:=by
  subst e1;exact⟨hF.defs,_,jB (by simp) f_,_,H',rfl,hv,aT.takeT ip _ jp _ hp.1 hp.2 hH,hB⟩
 obtain⟨q1,v',q2,q3⟩:=hh;exact pv hc ⟨q1,v',q2,q3⟩ ⟨q1,v',q2,q3⟩
theorem RN.ret{fn:Func}{R':Value->HL->Prop}(hints:List Hint)(ip jp:List Nat){v:Value}{H':HL}(hv:R' v H')
 (hc:kJ s=true:=by kernel_rfl) (h:∀n0,gS P n0 fn.results.toList R hints s=some (v,lD (gS P n0 fn.results.toList R hints s),lD (gS P n0 fn.results.toList R hints s),[]):=by intro n0;kernel_rfl)
 (hp:bC ip jp s=true:=by kernel_rfl) (hH:ap (picks ip jp s).1 (picks ip jp s).2=H':=by kernel_rfl):RN r P N [] F w0 R s (bodyPost P fn (uh F w0 R')):=L0 hints [] trivial hv hc h hp hH
theorem QV(ip jp:List Nat)(v:Value)(H':HL)(hv:R' v H')
 (hc:kJ s=true:=by kernel_rfl) (h:∀n0,gS P n0 fn.results.toList R hints s=some (v,lD (gS P n0 fn.results.toList R hints s),lD (gS P n0 fn.results.toList R hints s),[]):=by intro n0;kernel_rfl)
 (hp:bC ip jp s=true:=by kernel_rfl) (hH:ap (picks ip jp s).1 (picks ip jp s).2=H':=by kernel_rfl):RN r P N [] F w0 R s (bodyPost P fn (uh F w0 R')):=RN.ret hints ip jp hv hc h hp hH
theorem QW(v:Value)(H':HL)(hv:R' v H')
 (hc:kJ s=true:=by kernel_rfl) (h:∀n0,gS P n0 fn.results.toList R [] s=some (v,lD (gS P n0 fn.results.toList R [] s),lD (gS P n0 fn.results.toList R [] s),[]):=by intro n0;kernel_rfl)
 (hp:bC [] [] s=true:=by kernel_rfl) (hH:ap (picks [] [] s).1 (picks [] [] s).2=H':=by kernel_rfl):RN r P N [] F w0 R s (bodyPost P fn (uh F w0 R')):=RN.ret [] [] [] hv hc h hp hH
theorem SP{τ:Type}{f:FuncId}{Hq:τ->HL}{Tq:τ->List HL}{Rv:Value->τ->Prop}
 (hc:Sp P f args (ap [] []) (ap (eR [] s) (fE [] s)++F) (λ v H'=>∃x,H'=ap (Hq x) (Tq x)/\Rv v x)) (hk:∀v x,Rv v x->RN r P N D F w0 R (OV N [] [] (Hq x) (Tq x) v s) Q)
 (h:∀n0,jD N s (xE P n0 N R s)=some (f,args,[],[],s.A):=by intro n0;kernel_rfl)
 (hp:bC [] [] s=true:=by kernel_rfl) (hH:picks [] [] s=([],[]):=by kernel_rfl):RN r P N D F w0 R s Q:=RN.ct [] [] hc hk h hp hH
structure Inv where
 L:FL
 A:HL
 Ts:List HL
 I:Prop
 m:Nat
def QX(K:Act->World->Prop)(V:Inv)(s:Cfg):Cfg:=match s with
 | ⟨.code (.loop c),k,_,_,_⟩=>⟨.code c,.met K::k,V.L,V.A,V.Ts⟩
 |s=>s
def vX(s:Cfg):Bool:=match s.c with
 | .code (.loop _)=>true
 |_=>false
def MV{σ:Type}(N:Nat)(D:List Deferred)(F:HL)(w0:World)(V:σ->Inv)(I:σ->Prop):Act->World->Prop:=OS N D F w0 (λ x=>(V x).L) (λ x=>ap (V x).A (V x).Ts) I
def Eh(s:Cfg):Option (Act->World->Prop):=match s.c,s.k with
 | .ex .normal,.met K::_=>some K
 |_,_=>none
def vY(V:Inv)(ip jp:List Nat)(s:Cfg):List (Option Value)×HL×List HL:=(V.L.map λ p=>s.L.lookup p.1,ip.filterMap (s.A[·]?),jp.filterMap (s.Ts[·]?))
def oL(V:Inv):List (Option Value)×HL×List HL:=(V.L.map λ p=>some p.2,V.A,V.Ts)
theorem rJ{V:Inv}(h:vY V ip jp s=oL V)(hp:bC ip jp s=true)(h1:Fm N D s.L a)(h2:Rel (ap s.A s.Ts++F) w):Fm N D V.L a/\Rel (ap V.A V.Ts++F) w:=by
 unfold vY oL at h;unfold bC at hp;rw[aaW] at hp;simp only[df] at h;exact⟨h1.sub h.1,h2.takeT ip _ jp _ hp.1 hp.2 (by rw[h.2.1,h.2.2])⟩
theorem qZ{V:σ->Inv}{I:σ->Prop}{x:σ}(hi:I x)(hm:Eh s=some (MV N D F w0 V I):=by kernel_rfl)(h:vY (V x) ip jp s=oL (V x):=by kernel_rfl)(hp:bC ip jp s=true:=by kernel_rfl):RN r P N D F w0 R s Q:=by
 refine⟨λ hR a w h1 h2 h3=>?_⟩;obtain⟨k1,k2⟩:=rJ h hp h1 h2;obtain⟨c,k,L,A,Ts⟩:=s;unfold Eh at hm;split at hm
 case h_2=>cases hm
 rename_i K k' e1 e2;simp only at e1 e2;subst e1;subst e2;simp only[de] at hm;subst hm;exact⟨x,hi,k1,k2,h3⟩
theorem G2{L:FL}{H:HL}(Lx:σ->FL)(Hx:σ->HL){I:σ->Prop}(μ:σ->Nat){c:Code}(round:∀x,I x->TR r P N D F w0 (Lx x) (Hx x) c (Exit.then (OS N D F w0 Lx Hx (λ x'=>I x'/\μ x'<μ x)) Q)){x0:σ}(hi:I x0):TR r P N D F w0 (Lx x0) (Hx x0) (.loop c) Q:=by
 intro a w h1 h2 h3;have key:∀n x,μ x<=n->I x->∀a w,Fm N D (Lx x) a->Rel (Hx x++F) w->Below 0 w0 w->∀ (b:Frame) (k:List Item) (cs:List Frame),b.roundOf=(Wr r).round->(Wr r).fn b.fn->(Wr r).room (cs.length+1+0)->∃e a' w',Q e a' w'/\ArrivesIn (Machine.fenced P (Wr r)) P (lone (b.atR a (.code c:: .inLoop c::k)) cs w) b k cs e a' w':=by
  intro n
  induction n using Nat.strongRecOn with
  |_ n ih=>
   intro x hn hI a w k1 k2 k3 b k cs Vy hb hr;obtain⟨e,a₁,w₁,hq,o_⟩:=round x hI a w k1 k2 k3 b (.inLoop c::k) cs Vy hb hr;cases e with
   |normal=>
    obtain⟨x',⟨hI',g_⟩,m1,m2,m3⟩:=hq;obtain⟨e₂,a₂,w₂,Xs,Vq⟩:=ih (μ x') (by omega) x' (aaI _) hI' a₁ w₁ m1 m2 m3 b k cs Vy hb hr;exact⟨e₂,a₂,w₂,Xs,.of_steps (StepsIn.trans o_ (.one (fenced_calm hb hr rfl) stepR_inLoop)) Vq⟩
   |exit id=>exact⟨_,a₁,w₁,hq,.pass (x:=.inLoop c) rfl (λ _ _=>.inl (by simp)) o_⟩
   |goto l=>exact⟨_,a₁,w₁,hq,.pass (x:=.inLoop c) rfl (λ _ _=>.inl (by simp)) o_⟩
   |ret=>exact⟨_,a₁,w₁,hq,.pass (x:=.inLoop c) rfl (λ _ _=>.inl (by simp)) o_⟩
   |panic ch=>exact⟨_,a₁,w₁,hq,.pass (x:=.inLoop c) rfl (λ _ _=>.inl (by simp)) o_⟩
   |outgrown=>exact⟨_,a₁,w₁,hq,.pass (x:=.inLoop c) rfl (λ _ _=>.inl (by simp)) o_⟩
 intro b k cs Vy hb hr;obtain⟨e,a',w',hq,o_⟩:=key _ x0 (aaI _) hi a w h1 h2 h3 b k cs Vy hb hr;exact⟨e,a',w',hq,.of_steps (.one (fenced_calm hb hr rfl) stepR_loop) o_⟩
theorem RN.loop{σ:Type}(V:σ->Inv)(x0:σ)(ip jp:List Nat)(hi:(V x0).I)
  (round:∀x,(V x).I->(∀ {s':Cfg} {R':HL} (x':σ) (ip jp:List Nat),(V x').I/\(V x').m<(V x).m->(hm:Eh s'=some (MV N D F w0 V (λ x'=>(V x').I/\(V x').m<(V x).m)):=by kernel_rfl)->(h:vY (V x') ip jp s'=oL (V x'):=by kernel_rfl)->(hp:bC ip jp s'=true:=by kernel_rfl)->RN r P N D F w0 R' s' Q)->
   RN r P N D F w0 R (QX (MV N D F w0 V (λ x'=>(V x').I/\(V x').m<(V x).m)) (V x) s) Q)
  (hc:vX s=true:=by kernel_rfl) (h:vY (V x0) ip jp s=oL (V x0):=by kernel_rfl) (hp:bC ip jp s=true:=by kernel_rfl):RN r P N D F w0 R s Q:=by
 refine⟨λ hR a w h1 h2 h3=>?_⟩;obtain⟨k1,k2⟩:=rJ h hp h1 h2;obtain⟨c,k,L,A,Ts⟩:=s;unfold vX at hc;split at hc
 case h_2=>cases hc
 rename_i c' e1;simp only at e1;subst e1;exact G2 (L:=L) (H:=A) (λ x=>(V x).L) (λ x=>ap (V x).A (V x).Ts) (I:=λ x=>(V x).I) (λ x=>(V x).m) (λ x hx=>(round x hx (λ x' ip jp hi hm h hp=>qZ (x:=x') (ip:=ip) (jp:=jp) hi hm h hp)).h hR) (x0:=x0) hi a w k1 k2 h3
def Tj(n:Nat)(s:Cfg):Cfg:=match s with
 | ⟨.code (.loop c),k,L,A,Ts⟩=>⟨.code c,.rnd c n::k,L,A,Ts⟩
 |s=>s
theorem Ei{c:Code}{n:Nat}:∀a w,vV none P c Q n a w->Code.rounds P c Q n a w:=by
 induction n with
 |zero=>exact λ _ _ h=>h
 |succ n ih=>
  intro a w h;refine(wpIn_wide (n:=0)).1 (wpIn_mono h λ e a w q=>?_);cases e <;> first|exact ih a w q|exact q
theorem RN.rounds(n:Nat)(hk:RN none P N D F w0 R (Tj n s) Q)(hc:vX s=true:=by kernel_rfl):RN none P N D F w0 R s Q:=by
 refine⟨λ hR a w h1 h2 h3=>?_⟩;obtain⟨c,k,L,A,Ts⟩:=s;unfold vX at hc;split at hc
 case h_2=>cases hc
 rename_i c' e1;simp only at e1;subst e1;exact(wpIn_wide (n:=0)).2 (wp_loop_rounds (n+1) (Ei (n:=n+1) a w (hk.h hR a w h1 h2 h3)))
end
def aal:=@RN.cp
def aam:=@RN.ct
def aaq:=@RN.em
def aar:=@RN.en
def aas:=@RN.fx
def aat:=@RN.loop
def aav:=@RN.ret
def aaw:=@RN.rounds
def aaz:=@Sp.run
end
end Go.Proofs.YtogafelgppjklaaGreatDoor
