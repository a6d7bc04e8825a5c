import Derived.Test.YtjokannbjmndfaaGreatDoorZ02
import Derived.Deep.AppendSrc
import Derived.Laws.AppendOwn
import Derived.LoopN
import Derived.RangeFuncSeq
import Derived.RangeFuncLeaves
import Derived.Shelf.Abstract
set_option linter.all false
set_option maxHeartbeats 4000000
set_option maxRecDepth 100000
namespace Go.Proofs.YtjokannbjmndfaaGreatDoor
open Go.RowKit
variable {A F G H H' Hl Rd:HL} {D:List Deferred} {L:FL} {N cap n:Nat} {P:Program} {R:Value->HL->Prop} {Ts:List HL} {a:Act} {assign:Code} {fn:Func} {g:Operand} {gf:FuncId} {hards jr:List Nat} {lb:Array Value} {o:Oper} {ops:Array Oper} {ps:Array Tmp} {w w0:World} {α σ τ:Type} (jp:List Nat)
structure Enc(α:Type) where
 w:Nat
 cell:α->Nat->Value
 dflt:α
section
variable {α:Type} (e:Enc α)
def aD(l:List α):Nat->Nat->Value:=λ i k=>e.cell (l.getD i e.dflt) k
def ak(l:List α):List Value:=l.flatMap λ x=>(List.range e.w).map (e.cell x)
theorem aI(l:List α):(ak e l).length=l.length*e.w:=by
 induction l with
 |nil=>simp[ak]
 |cons x l ih=>simp only[ak,List.flatMap_cons,aaK,acD,afK,aaZ,ade] at ih ⊢;omega
theorem aN(l l':List α):ak e (l++l')=ak e l++ak e l':=by simp[ak]
theorem CJ(l:List α):∀n,n<=l.length->bj e.w (aD e l) n=ak e (l.take n)
 |0,_=>by simp[bj,ak]
 |n+1,h=>by
  rw[bj,CJ l n (by omega),acQ (by omega),aN];congr 1;simp[ak,aD,aa1 (show n<l.length by omega)]
theorem fQ(l:List α):bj e.w (aD e l) l.length=ak e l:=by rw[CJ e l _ (aaI _),ac8]
def SlIs(T:TypeId)(l:List α)(A:Option Addr)(cap:Nat)(Hl:HL):Prop :=
 (A=none/\cap=0/\l=[]/\Hl=[])\/∃b o full,A=some ⟨b,o*e.w,none⟩/\Hl=[(b,.rows e.w (o+cap) (aD e full) T (0,0))]/\full.length=o+cap/\l.length<=cap/\(full.drop o).take l.length=l
def bn:Option Addr->Prop
 |none=>True
 |some a=>a.off=0
theorem SlIs.nil(T:TypeId):SlIs e T [] none 0 []:=.inl ⟨rfl,rfl,rfl,rfl⟩
end
def lm:List Value->Nat->List Value->List Value
 |c,_,[]=>c
 |c,o,v::r=>lm (c.set o v) (o+1) r
theorem m5:∀ (news c:List Value) (o:Nat),o+news.length<=c.length->∀j,(lm c o news)[j]?=if o<=j/\j<o+news.length then news[j-o]? else c[j]?
 | [],c,o,_,j=>by rw[lm,if_neg (by simp only[adl];omega)]
 |v::r,c,o,h,j=>by
  simp only[aaZ] at h;rw[lm,m5 r _ (o+1) (by simp;omega) j]
  by_cases h1:o+1<=j/\j<o+1+r.length
  ·rw[if_pos h1,if_pos (by simp only[aaZ];omega)];obtain⟨d,rfl⟩:∃d,j=o+1+d:=⟨j-(o+1),by omega⟩;rw[show o+1+d-o=d+1 by omega,ace];congr 1;omega
  ·rw[if_neg h1,acS]
   by_cases h2:o=j
   ·subst h2;rw[if_pos rfl,if_pos (by omega),if_pos (by simp only[aaZ];omega)];simp
   ·rw[if_neg h2,if_neg (by simp only[aaZ];omega)]
theorem iV(b:Nat):∀ (news:List Value) (o:Nat) (w:World) (c:List Value) (ty:TypeId) (fz:Nat×Nat),w.heap[b]?=some (.cells ⟨c⟩ ty fz)->(w.setCells b o news).heap[b]?=some (.cells ⟨lm c o news⟩ ty fz)
 | [],o,w,c,ty,fz,h=>h
 |v::r,o,w,c,ty,fz,h=>by
  rw[World.setCells,lm];refine iV b r (o+1) _ _ ty fz ?_;simp only[World.setCell,acf,if_true,h,UV];simp
theorem iW(b:Nat):∀ (news:List Value) (o:Nat) (w:World) (k:Nat),k≠b->(w.setCells b o news).heap[k]?=w.heap[k]?
 | [],o,w,k,h=>rfl
 |v::r,o,w,k,h=>by
  rw[World.setCells,iW b r (o+1) _ k h];exact afz _ _ _ _ h
theorem iX(b:Nat):∀ (news:List Value) (o:Nat) (w:World),Below 0 w (w.setCells b o news)
 | [],o,w=>jt _ _
 |v::r,o,w=>((jt 0 w).setCell (aaJ _) v).trans (iX b r (o+1) _)
theorem gX (c:Nat)(h:c<n):Builtin.nextslicecap n c<=2*n+192:=by
 unfold Builtin.nextslicecap;split
 ·omega
 ·split
  ·omega
  ·simp only[Builtin.growBy]
   repeat' split
   all_goals omega
section
variable {α:Type} {e:Enc α} {P:Program} {t tx ty T:TypeId} {inf:TypeInfo} {z:Value}
structure EncOk(e:Enc α)(P:Program)(T:TypeId)(inf:TypeInfo)(z:Value):Prop where
 info:P.info? T=some inf
 zero:inf.zero=some z
 size:inf.size=e.w
 zsize:z.cells.size=e.w
 zcell:∀k,k<e.w->z.cells[k]?=some (e.cell e.dflt k)
 one:∀x k,(e.cell x k).oneCell'=true
 bytes:inf.bytes<=1000
theorem ln(ok:EncOk e P T inf z)(n:Nat):(Builtin.zeroCells z.cells n).toList=ak e (List.replicate n e.dflt):=by
 unfold Builtin.zeroCells;rw[xv,ok.zsize];have h1:=fQ e (List.replicate n e.dflt);rw[ab6] at h1;rw[<- h1];show bj _ _ _=_;refine vF λ i k hi hk=>?_;have h2:=ok.zcell k hk;simp only[aD,aaG,ac2,aaA,h2];split <;> rfl
theorem Ec(ok:EncOk e P T inf z)(ht:P.underlying t=some (.slice T)){l:List α}{A:Option Addr}(h:SlIs e T l A cap Hl)(hR:Rel (Hl++G) w){src:List α}{x:Value}
  (hs:Src P inf.size tx x src.length (ak e src) w) (hb:l.length+src.length<=100000000) :
  ∃A' iD z_ w',(Builtin.append_ #[t,tx] ty #[.slice A l.length cap,x]).run P w=.ok (.slice A' (l.length+src.length) iD) w'/\(SlIs e T (l++src) A' iD z_/\(bn A->bn A'))/\Rel (z_++G) w'/\Below 0 w w':=by
 have hby:=ok.bytes;have VV:∀c,c<l.length+src.length->Builtin.nextslicecap (l.length+src.length) c*inf.bytes<=281474976710656:=λ c hc=>by
  have h1:=gX c hc;have h2:Builtin.nextslicecap (l.length+src.length) c*inf.bytes<=(2*100000000+192)*1000:=afI (by omega) hby;omega
 have grow:∀ (hg:cap<l.length+src.length) (hold:(Builtin.firstCells inf.size l.length (.slice A l.length cap)).run P w.drew=.ok (ak e l).toArray w.drew),∃A' iD z_ w',(Builtin.append_ #[t,tx] ty #[.slice A l.length cap,x]).run P w=.ok (.slice A' (l.length+src.length) iD) w'/\(SlIs e T (l++src) A' iD z_/\(bn A->bn A'))/\Rel (z_++G) w'/\Below 0 w w':=by
  intro hg hold;have iO:=run_append_grow_src (P:=P) w t tx ty T inf z ht ok.info ok.zero A l.length cap (ak e l) hold x src.length (ak e src) hs hg (by omega) (VV cap hg);have Wq:=grownCap_ge w (l.length+src.length) cap T;generalize grownCap w (l.length+src.length) cap T=nc at *;refine⟨_,nc,[(w.heap.size,.rows e.w (0+nc) (aD e (l++src++List.replicate (nc-(l.length+src.length)) e.dflt)) T (0,0))],_,iO,⟨.inr ⟨w.heap.size,0,l++src++List.replicate (nc-(l.length+src.length)) e.dflt,by simp,rfl,by simp;omega,by simp;omega,by rw[adq,abs (by simp),WP (by simp)]⟩,λ _=>rfl⟩,?_,?_⟩
  ·have VM:Rel G w:=hR.drop;have:=(Rel.cons (.rows e.w (0+nc) (aD e (l++src++List.replicate (nc-(l.length+src.length)) e.dflt)) T (0,0)) (o:=.cells ((ak e l++ak e src).toArray++Builtin.zeroCells z.cells (nc-(l.length+src.length))) T (0,0)) ?_ (VM.world (w':=w.drew) rfl))
   ·exact this
   ·show Obj.cells _ _ _=_;congr 1;apply Array.ext';show bj _ _ _=_;have hl:0+nc=(l++src++List.replicate (nc-(l.length+src.length)) e.dflt).length:=by simp;omega
    rw[hl,fQ,aN,aN,afi,ln ok]
  ·exact⟨rfl,rfl,rfl,by simp,λ k hk=>by omega⟩
 rcases h with ⟨rfl,rfl,rfl,rfl⟩|⟨b,o,full,rfl,rfl,UY,hle,hl⟩
 ·-- nil
  rcases acq src.length with h0|h0
  ·obtain rfl:src=[]:=aa6 h0;refine⟨none,0,[],w,?_,⟨.inl ⟨rfl,rfl,by simp,rfl⟩,λ h=>h⟩,hR,jt _ _⟩;have hc:(Builtin.firstCells inf.size 0 x).run P w=.ok #[] w:=hs.cells;rcases hs.kind with ⟨e',hk⟩|hk <;> simp[Builtin.append_,run_underlying ht,run_underlying hk,Go.sizeOf,typeInfo,ok.info,hs.len,hc]
  ·exact grow (by simp;omega) (by simp[ak];exact run_firstCells_none w.drew inf.size 0 0 0)
 ·have U0:=hR.holds _ (aaB G (aaC));simp only[Blk.den] at U0;have WG:(bj e.w (aD e full) (o+cap)).length=(o+cap)*e.w:=cH;have IS:bj e.w (aD e full) (o+cap)=ak e full:=by rw[<- UY];exact fQ e full
  by_cases DO:l.length+src.length<=cap
  ·-- there is room
   have L_:=ok.size;have Zm:(ak e src).length=src.length*e.w:=aI e src;have Vb:o*e.w+l.length*inf.size+(ak e src).length<=(o+cap)*e.w:=by
    rw[Zm,L_,<- acE,<- acE];exact acJ _ (by omega)
   have TZ:∀j,j<(ak e src).length->(w.cell? ⟨b,o*e.w+l.length*inf.size+j,none⟩).isSome=true:=λ j hj=>by
    simp[World.cell?,U0,WG];omega
   have YK:∀j,j<(ak e src).length->w.frozen? ⟨b,o*e.w+l.length*inf.size+j,none⟩=false:=λ j hj=>by simp[World.frozen?,U0]
   have iO:=run_append_room_src (P:=P) w t tx ty T inf ht ok.info b (o*e.w) l.length cap x src.length (ak e src) hs DO TZ YK;have YU:=iV b (ak e src) (o*e.w+l.length*inf.size) w _ _ _ U0;have WJ:lm (bj e.w (aD e full) (o+cap)) (o*e.w+l.length*inf.size) (ak e src)=ak e (full.take (o+l.length)++src++full.drop (o+l.length+src.length)):=by
    apply acg;intro j;rw[m5 _ _ _ (by rw[WG];exact Vb),IS,aN,aN];have c1:(ak e (full.take (o+l.length))).length=(o+l.length)*e.w:=by rw[aI,aaN];congr 1;omega
    have c0:o*e.w+l.length*inf.size=(o+l.length)*e.w:=by rw[L_,<- acE]
    have Vq:ak e full=ak e (full.take (o+l.length))++ak e (full.drop (o+l.length)):=by rw[<- aN,abt]
    have V9:ak e (full.drop (o+l.length))=ak e ((full.drop (o+l.length)).take src.length)++ak e (full.drop (o+l.length+src.length)):=by
     rw[<- aN,show o+l.length+src.length=(o+l.length)+src.length from rfl,<- adr (i:=src.length) (j:=o+l.length),abt]
    have c2:(ak e ((full.drop (o+l.length)).take src.length)).length=src.length*e.w:=by rw[aI,aaN,aaY];congr 1;omega
    rw[c0]
    by_cases h1:j<(o+l.length)*e.w
    ·rw[if_neg (by omega),Vq,aaF,aa2 (by omega),aa2 (by omega)]
    ·by_cases h2:j<(o+l.length)*e.w+src.length*e.w
     ·rw[if_pos (by omega),aaF,aa3 (by omega),aa2 (by omega),c1]
     ·rw[if_neg (by omega),Vq,V9,aaF,aa3 (by omega),aa3 (by omega),aa3 (by omega),aa3 (by omega),c1,c2,Zm]
   have YN:(full.take (o+l.length)++src++full.drop (o+l.length+src.length)).length=o+cap:=by simp;omega
   refine⟨_,cap,[(b,.rows e.w (o+cap) (aD e (full.take (o+l.length)++src++full.drop (o+l.length+src.length))) T (0,0))],_,iO,⟨.inr ⟨b,o,_,rfl,rfl,YN,by simp;omega,?_⟩,λ h=>h⟩,?_,iX _ _ _ _⟩
   ·have h1:full.take (o+l.length)=full.take o++l:=by rw[List.take_add,hl]
    rw[h1,aaF,aaF,acn (by simp;omega),aco (by rw[aaN];omega),WF,<- aaF];rw[abs (by simp)];exact WP (by simp)
   ·refine⟨?_,by have:=hR.nodup;simpa using this⟩;intro y hy;rcases abL.1 hy with rfl|hy
    ·rw[YU,WJ];simp only[Blk.den];rw[<- YN,fQ]
    ·have u_:y.1≠b:=by
      have:=hR.nodup;simp only[abB,WF,acF,acX] at this;intro e1;exact this.1 (by rw[<- e1];exact acU hy)
     rw[iW b _ _ _ _ u_];exact hR.holds y (aaz _ hy)
  ·refine grow (by omega)<|run_firstCells_some w.drew inf.size l.length ⟨b,o*e.w,none⟩ l.length cap (ak e l) (by rw[aI,ok.size]) ?_;intro j u hj;have W0:j<(ak e l).length:=(bt.1 hj).1;rw[aI] at W0;have No:ak e l=((ak e full).drop (o*e.w)).take (l.length*e.w):=by
    have h1:ak e full=ak e (full.take o)++(ak e l++ak e ((full.drop o).drop l.length)):=by
     rw[<- aN,<- aN];congr 1
     conv=>lhs;rw[<- abt o full]
     congr 1
     conv=>lhs;rw[<- abt l.length (full.drop o)]
     rw[hl]
    have c1:(ak e (full.take o)).length=o*e.w:=by rw[aI,aaN];congr 1;omega
    rw[h1,acn (by omega),aco (by omega),WF,abs (by rw[aI];exact aaI _),WP (by rw[aI];exact aaI _)]
   rw[Addr.add_lit];show World.cell? w ⟨b,o*e.w+j,none⟩=some u;simp only[World.cell?,U0,IS];rw[No,abn,if_pos (by omega),abi] at hj;simpa using hj
theorem o7(ok:EncOk e P T inf z){a1 a2:Operand}(C_:o.op=.call { callee:=.builtin .append,args:=#[a1,a2],argTypes:=#[t,tx] })(ht:P.underlying t=some (.slice T))
  {l src:List α} {A:Option Addr} {x:Value} (hi:(dw L a1 && dw L a2)=true) (h1:cN L a1=.slice A n cap) (hn:n=l.length) (h2:cN L a2=x) (o_:(Hl++G).Perm H) (Wp:SlIs e T l A cap Hl)
  (hs:∀w,Rel (H++F) w->Src P inf.size tx x src.length (ak e src) w) (hb:l.length+src.length<=100000000) (hF:Fm N D L a) (hR:Rel (H++F) w) :
  b9 P o a w λ u w'=>∃y:Option Addr×Nat×HL,(u=.slice y.1 (n+src.length) y.2.1/\(SlIs e T (l++src) y.1 y.2.1 y.2.2/\(bn A->bn y.1)))/\Rel ((y.2.2++G)++F) w'/\Below 0 w w':=by
 subst hn;simp only[abc] at hi;have e1:=(hF.eval hi.1).trans h1;have e2:=(hF.eval hi.2).trans h2;have IF:Rel (Hl++(G++F)) w:=by rw[<- aaF];exact hR.perm (o_.append_right F)
 obtain⟨A',iD,z_,w',r1,r2,r3,r4⟩:=Ec (ty:=o.type) ok ht Wp IF (hs w hR) hb;unfold b9;have iO:(execOp a.eval o).run P w=.ok (.value (.slice A' (l.length+src.length) iD)) w':=by
  simp[execOp,C_,resolve,invoke,builtin,abg,e1,e2,r1]
 rw[iO];exact⟨(A',iD,z_),⟨rfl,r2⟩,by rw[aaF];exact r3,r4⟩
theorem qK(ok:EncOk e P T inf z){e':TypeId}(hk:P.underlying tx=some (.slice e')){sb c:Nat}{src:List α}{ty:TypeId}{fz:Nat×Nat}(p:Nat)(h:H[p]?=some (sb,.lit (ak e src) ty fz))(hR:Rel (H++F) w):Src P inf.size tx (vS sb 0 src.length c) src.length (ak e src) w:=by
 refine Src.ofSlice w hk _ _ _ _ (by rw[aI,ok.size]) ?_ ?_
 ·intro j u hj;have hb:=hR.holds _ (aaB F (go h));simp only[Blk.den] at hb;rw[Addr.add_lit];simp[World.cell?,hb,hj]
 ·intro u hu;simp only[ak,afU,abY] at hu;obtain⟨x,_,k,_,rfl⟩:=hu;exact ok.one x k
end
section
variable {r:Option Nat} {P:Program} {N:Nat} {D:List Deferred} {F:HL} {w0:World} {ops:Array Oper} {i:Nat} {L:FL} {H:HL} {Q:Exit->Act->World->Prop}
def d5(H:HL):List (Nat×Obj):=H.map λ x=>(x.1,x.2.den)
theorem Rel.den{H:HL}(e:d5 H=d5 H')(h:Rel H w):Rel H' w:=by
 have h1:H'.map (·.1)=H.map (·.1):=by
  have:=congrArg (List.map (·.1)) e;simpa [d5,Function.comp_def] using this.symm
 refine⟨λ x hx=>?_,by have:=h.nodup;rw[h1];exact this⟩;have:(x.1,x.2.den)∈d5 H:=e▸acU hx;obtain⟨y,hy,e2⟩:=abY.1 this;have h3:=h.holds y hy;simp only[df] at e2;rw[<- e2.1,<- e2.2];exact h3
theorem Rel.denA{A' F:HL}(e:d5 A=d5 A')(h:Rel (ap A Ts++F) w):Rel (ap A' Ts++F) w :=
 h.den (by simp only[d5,acl] at e ⊢;rw[e])
end
theorem OPJ.den{i:Nat}{K K':Act->HL->Prop}(hK:∀a H1 H2,d5 H1=d5 H2->K a H1->K' a H2)(hp:d5 H=d5 H')(h:OPJ P ops F w0 hards Rd i a H K):OPJ P ops F w0 hards Rd i a H' K':=by
 have hx:∀X:HL,d5 (X++H)=d5 (X++H'):=λ X=>by simp only[d5,acl] at hp ⊢;rw[hp]
 have hf:∀ (A B:HL) (w:World),d5 A=d5 B->Rel (A++F) w->Rel (B++F) w:=λ A B w e h=>h.den (by simp only[d5,acl] at e ⊢;rw[e]);unfold OPJ at h ⊢;cases ho:ops[i]? with
 |none=>rw[ho] at h;exact h
 |some o=>
  rw[ho] at h;simp only at h ⊢;split
  ·rename_i hw;rw[if_pos hw] at h;intro w hR hB;refine eT (h w (hf _ _ _ hp.symm hR) hB) ?_;rintro u w' ⟨H1,⟨s1,s2⟩,k1,k2,k3⟩
   by_cases hi:i∈hards
   ·exact⟨H1,⟨λ e=>absurd hi e,s2⟩,hK _ _ _ rfl k1,k2,k3⟩
   ·obtain⟨X,rfl⟩:=s1 hi;exact⟨X++H',⟨λ _=>⟨X,rfl⟩,λ e=>absurd e hi⟩,hK _ _ _ (hx X) k1,hf _ _ _ (hx X) k2,k3⟩
  ·rename_i hw;rw[if_neg hw] at h;exact hK _ _ _ hp h
theorem JJ.den{P:Program}{F:HL}{w0:World}{ops:Array Oper}{Q:Exit->Act->World->Prop}{hards:List Nat}{Rd:HL}:∀ (fuel:Nat) (listed:Array Bool) (a:Act) (H H':HL),d5 H=d5 H'->JJ P ops Q F w0 hards Rd fuel listed a H->JJ P ops Q F w0 hards Rd fuel listed a H'
 |0,listed,a,H,H',hp,h=>⟨h.1,λ w hR hB=>h.2 w (hR.den (by simp only[d5,acl] at hp ⊢;rw[hp])) hB⟩
 |fuel+1,listed,a,H,H',hp,h=>⟨λ e w hR hB=>h.1 e w (hR.den (by simp only[d5,acl] at hp ⊢;rw[hp])) hB,λ i hi=>OPJ.den (λ a H1 H2 hp h=>JJ.den fuel _ a H1 H2 hp h) hp (h.2 i hi)⟩
theorem TD.den{fuel:Nat}{listed:List Bool}{Q:Exit->Act->World->Prop}(A':HL)(e:d5 A=d5 A')(h:TD P N D F w0 ops hards Rd fuel listed L (ap A' Ts) Q):TD P N D F w0 ops hards Rd fuel listed L (ap A Ts) Q:=by
 intro Q_ a hF;refine JJ.den _ _ _ _ _ ?_ (h Q_ a hF);simp only[d5,acl] at e ⊢;rw[e]
theorem SlIs.open0{e:Enc α}{T:TypeId}{l:List α}{A:Option Addr}(h:SlIs e T l A cap Hl)(hz:bn A)(hw:0<e.w)(hl:0<l.length):∃b rest,A=some ⟨b,0,none⟩/\Hl=[(b,.rows e.w cap (aD e (l++rest)) T (0,0))]/\l.length<=cap:=by
 rcases h with ⟨_,_,rfl,_⟩|⟨b,o,full,rfl,rfl,h3,h4,h5⟩
 ·simp at hl
 ·have ho:o=0:=by
   have h6:o*e.w=0:=hz;rcases Nat.mul_eq_zero.1 h6 with h|h
   ·exact h
   ·omega
  subst ho;refine⟨b,full.drop l.length,by rw[aeL],?_,h4⟩;have:l++full.drop l.length=full:=by
   conv=>lhs;lhs;rw[<- h5]
   rw[adq,abt]
  rw[this,abP]
section
variable {r:Option Nat} {P:Program} {N:Nat} {D:List Deferred} {F:HL} {w0:World} {ops:Array Oper} {i:Nat} {L:FL} {Q:Exit->Act->World->Prop} {A:HL} {Ts W8:List HL} {x:Nat×Blk}
theorem AG{A:HL}{Ts W8:List HL}{x:Nat×Blk}{j:Nat}(hp:([j]++jr).isPerm (List.range Ts.length)=true)(hj:Ts[j]?=some [x])(hr:jr.filterMap (Ts[·]?)=W8):(ap (x::A) W8).Perm (ap A Ts):=by
 have h3:=fh Ts hp;simp only[ac3,hj,adj,hr] at h3;have h4:=h3.flatten;simp only[abB,WF,abe] at h4;show (x::(A++W8.flatten)).Perm (A++Ts.flatten);refine List.Perm.trans ?_ (ab0 A h4);exact(abH (a:=x) (l₁:=A) (l₂:=W8.flatten)).symm
theorem GZ{A:HL}{Ts W8:List HL}(hp:jp.isPerm (List.range Ts.length)=true)(e:jp.filterMap (Ts[·]?)=W8):(ap A W8).Perm (ap A Ts):=by
 have h3:=fh Ts (ip:=jp) (ir:=[]) (by simpa using hp);rw[e] at h3;simp only[adj,acm] at h3;exact ab0 A h3.flatten
end
open Go.Shelf
def YL(P:Program)(l:Nat)(args:Array Value)(H F:HL)(R:Bool->HL->Prop):Prop :=
 ∀w,Rel (H++F) w->YieldAt (Wr none) 0 P l args w λ e W'=>∃b H',e=.returned (.bool b)/\R b H'/\Rel (H'++F) W'/\Below 0 w W'
def It(P:Program)(g:FuncId)(lb:Array Value)(F:HL){α:Type}(encs:α->Array Value)(xs:List α):Prop :=
 ∀ (X:HL) (l:Nat) (J:Nat->HL->Prop) (Jx:HL->Prop) (H0:HL),(∀i x H Y,xs[i]?=some x->J i H->YL P l (encs x) H (Y++(X++F)) (λ b H'=>(b=true/\J (i+1) H')\/(b=false/\Jx H')))->J 0 H0->
  Sp P g (#[.func (.yield l) #[] #[]]++lb) H0 (X++F) (λ _ H'=>J xs.length H'\/Jx H')
def AJ(P:Program)(n0 N:Nat)(ops:List Oper)(i:Nat)(L:FL)(H R:HL)(hints:List Hint):Option (Option Tmp×Nat×Array Value×List Prop) :=
 match ops[i]? with
 |none=>none
 |some o=>match jl ops o L ⟨H,R,hints,0,[],[],true⟩ with
  |some (true,s)=>match iP o.op L,s.hints,s.eq with
   |true,[],[]=>match o.op with
    | .call c=>match c.callee with
     | .value f=>match cN L f with
      | .func (.yield l) cap bound=>match cap.toList,bound.toList with
       | [],[]=>some (o.dst,l,c.args.map (cN L),s.ob)
       |_,_=>none
      |_=>none
     |_=>none
    |_=>none
   |_,_,_=>none
  |_=>none
theorem AK{ρ:Operand->Value}{c:Call}{f:Operand}{l:Nat}(ho:o.op=.call c)(hc:c.callee=.value f)(hf:ρ f=.func (.yield l) #[] #[])(w:World) :
  (execOp ρ o).run P w=(Instr.yield l (c.args.map ρ)).run P w:=by
 simp[execOp,ho,resolve,hc,hf,Deferred.ofValue,invoke,abg,Result.andThen]
section
variable {r:Option Nat} {P:Program} {N:Nat} {D:List Deferred} {F:HL} {w0:World} {ops:Array Oper} {i:Nat} {L:FL} {H:HL} {Q:Exit->Act->World->Prop}
end
abbrev cg(d:Nat):Nat×Blk:=(d,.obj (.deferred (some [])))
abbrev coll(d:Nat):Deferred:={ target:=.collected d,args:=#[] }
theorem Rel.putObj{F:HL}{l:Nat}{b:Blk}(b':Blk)(h:Rel ((l,b)::H) w):Rel ((l,b')::H) (w.putObj l b'.den):=by
 have hl:=h.lt (aaC);refine⟨λ x hx=>?_,by simpa using h.nodup⟩;rcases abL.1 hx with rfl|hx
 ·exact World.putObj_heap_same hl
 ·have u_:x.1≠l:=by
   have:=h.nodup;simp only[acF,acX] at this;intro e;exact this.1 (e▸acU hx)
  exact(World.putObj_heap_other u_).trans (h.holds x (aaD _ hx))
theorem dJ{l:Nat}{o:Obj}:Below 0 w (w.putObj l o):=⟨rfl,rfl,rfl,by simp,λ k hk=>by omega⟩
theorem iz{o:Obj}:Below 0 w (w.alloc o):=⟨rfl,rfl,rfl,by simp,λ k hk=>by omega⟩
theorem Rel.alloc(b:Blk)(h:Rel H w):Rel ((w.heap.size,b)::H) (w.alloc b.den):=Rel.cons b rfl h
def RQ{σ:Type}(F:HL)(w0:World)(Hx:σ->HL)(I:σ->Prop)(Ix:Code->σ->Prop):Exit->Act->World->Prop
 | .normal,_,w=>∃s,I s/\Rel (Hx s++F) w/\Below 0 w0 w
 | .ret,_,w=>∃s,Ix .ret s/\Rel (Hx s++F) w/\Below 0 w0 w
 | .exit id,_,w=>∃s,Ix (.exit id) s/\Rel (Hx s++F) w/\Below 0 w0 w
 |_,_,_=>False
section
variable {P:Program} {N:Nat} {D:List Deferred} {F:HL} {w0:World} {L:FL} {Q:Exit->Act->World->Prop}
def qy:List Tmp->List Value->FL->FL
 |p::ps,v::vs,L=>qy ps vs ((p,v)::L)
 |_,_,L=>L
theorem Fm.zip:∀ (ps:List Tmp) (vs:List Value) (L:FL) (tmps:Array Value),(∀p∈ps,p<N)->Fm N D L { tmps:=tmps,defers:=D } ->Fm N D (qy ps vs L) { tmps:=(ps.zip vs).foldl (λ t (p,v)=>t.setIfInBounds p v) tmps,defers:=D }
 |p::ps,v::vs,L,tmps,hN,h=>by
  rw[qy,List.zip_cons_cons,List.foldl_cons];refine Fm.zip ps vs _ _ (λ q hq=>hN q (aaD _ hq)) ⟨by simpa using h.size,rfl,λ t u ht=>?_⟩;have hs:tmps.size=N:=h.size;have hp:=hN p aaC;rw[adh] at ht;simp only
  by_cases e:t=p
  ·subst e;simp at ht;subst ht;rw[adk];simp[hs,hp]
  ·have:(t == p)=false:=by simpa using e
   rw[this] at ht;rw[adk,if_neg (λ e'=>e e'.symm)];exact h.has _ _ ht
 | [],vs,L,tmps,_,h=>by simpa [qy] using h
 |_::_,[],L,tmps,_,h=>by simpa [qy] using h
theorem TR.range{body:Code}{encs:α->Array Value}{xs:List α}(hi:dw L g=true)(hg:cN L g=.func (.func gf) #[] lb)(eg:∀args w,(callFunc gf args).run P w=.ok (.enter gf args) w)
  (Hx:σ->HL) (I:Nat->σ->Prop) (Ix:Code->σ->Prop) (La:τ->FL) (Ha:τ->HL) (Ia:Nat->α->τ->Prop) (hps:∀x,(encs x).size=ps.size) (WX:(ps.toList.all λ p=>decide (p<N))=true)
  (x0:σ) (h0:I 0 x0) (ip ir jp jr:List Nat) (hp:(ip++ir).isPerm (List.range A.length)=true) (hj:(jp++jr).isPerm (List.range Ts.length)=true) (Hr:HL) (Tr:List HL) (hHr:ir.filterMap (A[·]?)=Hr) (hTr:jr.filterMap (Ts[·]?)=Tr) (hH:ap (ip.filterMap (A[·]?)) (jp.filterMap (Ts[·]?))=Hx x0)
  (hit:It P gf lb (ap Hr Tr++F) encs xs)
  (BY:∀ (l i:Nat) (x:α) (s:σ) (Y:HL) (w1:World),xs[i]?=some x->I i s->TR (some l) P N [] (Y++(ap Hr Tr++F)) w1 (qy ps.toList (encs x).toList L) (Hx s) assign (Exit.then (OD N [] (Y++(ap Hr Tr++F)) w1 La Ha (Ia i x)) (λ _ _ _=>False)))
  (Uk:∀ (l i:Nat) (x:α) (t:τ) (Y:HL) (w1:World),xs[i]?=some x->Ia i x t->TR (some l) P N [] (Y++(ap Hr Tr++F)) w1 (La t) (Ha t) body (RQ (Y++(ap Hr Tr++F)) w1 Hx (I (i+1)) Ix))
  (Uj:∀ (d:Nat) (s:σ),I xs.length s->EX N (coll d::D) F w0 L (cg d::(Hx s++ap Hr Tr)) Q .normal)
  (Uf:∀ (d:Nat) (c:Code) (s:σ),Ix c s->TR none P N (coll d::D) F w0 L (cg d::(Hx s++ap Hr Tr)) c Q) :
  TR none P N D F w0 L (ap A Ts) (.rangeFunc g ps assign body) Q:=by
 intro a w hF hR hB;have V6:Rel (Hx x0++(ap Hr Tr++F)) w:=by
  have h1:=gC A Ts hp hj;rw[hHr,hTr,hH] at h1;rw[<- aaF];exact hR.perm (h1.append_right F)
 refine wpIn_rangeFunc ?_;intro fn hfn;obtain⟨rec,Ui⟩:∃rec:LoopState->Option Code->Loop,rec=λ st pe=>{ state:=st,pending:=pe,fn,tmps:=a.tmps,params:=ps,assign,body,defers:=w.heap.size }:=⟨_,rfl⟩;obtain⟨W1,hW1⟩:∃W1,(w.alloc (.deferred (some []))).alloc (.loop (rec .ready none))=W1:=⟨_,rfl⟩;have hB1:Below 0 w W1:=by rw[<- hW1];exact(iz).trans (iz)
 have hRW:Rel ((w.heap.size+1,Blk.obj (.loop (rec .ready none)))::cg w.heap.size::(Hx x0++(ap Hr Tr++F))) W1:=by
  rw[<- hW1];have h1:=(V6.alloc (.obj (.deferred (some [])))).alloc (.obj (.loop (rec .ready none)));rw[World.size_alloc] at h1;exact h1
 refine⟨w.heap.size+1,[coll w.heap.size],W1,{ target:=.fn (.func gf) lb,args:=#[.func (.yield (w.heap.size+1)) #[] #[]] },W1,gf,#[.func (.yield (w.heap.size+1)) #[] #[]]++lb,W1,?_,?_,?_,?_,λ h=>(by cases h),?_⟩
 ·rw[<- hW1,Ui];exact run_enterLoop_outer _ _ _ _ _
 ·have Wq:a.eval g=.func (.func gf) #[] lb:=(hF.eval hi).trans hg;simp only[resolve,Wq];simp[Deferred.ofValue];rfl
 ·intro f' _;trivial
 ·simp[invoke,eg]
 ·refine jJ ?_;obtain⟨l,hl⟩:∃l,w.heap.size+1=l:=⟨_,rfl⟩;rw[hl] at hRW ⊢;obtain⟨d,hd⟩:∃d,w.heap.size=d:=⟨_,rfl⟩;rw[hd] at hRW Ui ⊢;have key:=hit [] l (λ i H'=>∃s,I i s/\H'=(l,Blk.obj (.loop (rec .ready none)))::cg d::Hx s) (λ H'=>∃c s,Ix c s/\H'=(l,Blk.obj (.loop (rec .done (some c))))::cg d::Hx s)
   ((l,Blk.obj (.loop (rec .ready none)))::cg d::Hx x0) ?round ⟨x0,h0,rfl⟩ W1 hRW
  case round=>
   rintro i x H' Y hx ⟨s,hs,rfl⟩ W aT;have UL:Rel ((l,Blk.obj (.loop (rec .ready none)))::(cg d::(Hx s++(Y++(ap Hr Tr++F))))) W:=aT;have hlW:W.heap[l]?=some (.loop (rec .ready none)):=UL.holds _ aaC;have hy:=run_yield (P:=P) (args:=encs x) hlW (by rw[Ui];exact hps x);rw[Ui] at hy;refine⟨fn,_,assign,body,hy,roundIn_of_wpIn (F:=Wr none) (n:=0) hfn ?_⟩;have hFm:Fm N [] (qy ps.toList (encs x).toList L) { tmps:=(ps.zip (encs x)).foldl (λ t (p,v)=>t.setIfInBounds p v) a.tmps,defers:=[] }:=by
    have h1:=Fm.zip (D:=[]) ps.toList (encs x).toList L a.tmps (λ p hp=>abh (adt.1 WX p hp)) ⟨hF.size,rfl,hF.has⟩;have e:(ps.zip (encs x)).foldl (λ t (p,v)=>t.setIfInBounds p v) a.tmps=(ps.toList.zip (encs x).toList).foldl (λ t (p,v)=>t.setIfInBounds p v) a.tmps:=by
     rw[<- adN,afV]
    rw[e];exact h1
   have hRA:Rel (Hx s++(((l,Blk.obj (.loop (rec .ready none)))::cg d::Y)++(ap Hr Tr++F))) W:=by
    have:=UL;refine this.perm ?_;simp only[abB];refine abH.trans<|List.Perm.cons _ abH
   refine wpIn_mono (BY l i x s ((l,Blk.obj (.loop (rec .ready none)))::cg d::Y) W hx hs _ W hFm hRA (jt _ _)) ?_;intro e a1 Wa hq;cases e with
   |normal=>
    obtain⟨t,ht,m1,m2,m3⟩:=hq;have hRb:Rel ((l,Blk.obj (.loop (rec .ready none)))::(cg d::(Ha t++(Y++(ap Hr Tr++F))))) Wa:=by
     refine m2.perm ?_;simp only[abB];refine(List.Perm.trans ?_ abH.symm);refine List.Perm.cons _ abH.symm
    have hla:Wa.heap[l]?=some (.loop (rec .ready none)):=hRb.holds _ aaC;refine⟨_,run_beginRound hla (by rw[Ui]),?_⟩;have hRc:=hRb.putObj (F:=[]) (.obj (.loop { rec .ready none with state:=.busy }));have VX:Rel (Ha t++(((l,Blk.obj (.loop { rec .ready none with state:=.busy }))::cg d::Y)++(ap Hr Tr++F))) (Wa.putObj l (.loop { rec .ready none with state:=.busy })):=by
     refine hRc.perm ?_;simp only[abB];refine abH.trans<|List.Perm.cons _ abH
    refine wpIn_mono (Uk l i x t ((l,Blk.obj (.loop { rec .ready none with state:=.busy }))::cg d::Y) W hx ht a1 _ m1 VX (m3.trans (dJ))) ?_;have fin:∀ (jump:Option Code) (s':σ) (W3:World),Rel (Hx s'++(((l,Blk.obj (.loop { rec .ready none with state:=.busy }))::cg d::Y)++(ap Hr Tr++F))) W3->Below 0 W W3->
      ∃v w',(Instr.endRound l jump).run P W3=.ok v w'/\v=.bool jump.isNone/\Rel (((l,Blk.obj (.loop (rec (if jump.isNone then .ready else .done) jump)))::cg d::Hx s')++(Y++([]++(ap Hr Tr++F)))) w'/\Below 0 W w':=by
     intro jump s' W3 h3 hb3;have h4:Rel ((l,Blk.obj (.loop { rec .ready none with state:=.busy }))::(cg d::(Hx s'++(Y++(ap Hr Tr++F))))) W3:=by
      refine h3.perm ?_;simp only[abB];refine(List.Perm.trans ?_ abH.symm);refine List.Perm.cons _ abH.symm
     have We:W3.heap[l]?=some (.loop { rec .ready none with state:=.busy }):=h4.holds _ aaC;have iO:=run_endRound (P:=P) jump We;refine⟨_,_,iO,rfl,?_,hb3.trans (dJ)⟩;have h5:=h4.putObj (F:=[]) (.obj (.loop (rec (if jump.isNone then .ready else .done) jump)));rw[Ui] at h5 ⊢;exact h5
    intro e2 a2 W3 UD;cases e2 with
    |normal=>
     obtain⟨s',Ug,n2,n3⟩:=UD;obtain⟨v,w',k1,k2,k3,k4⟩:=fin none s' W3 n2 n3;exact⟨v,w',k1,true,_,by rw[k2];rfl,.inl ⟨rfl,s',Ug,rfl⟩,k3,k4⟩
    |ret=>
     obtain⟨s',Ug,n2,n3⟩:=UD;obtain⟨v,w',k1,k2,k3,k4⟩:=fin (some .ret) s' W3 n2 n3;exact⟨v,w',k1,false,_,by rw[k2];rfl,.inr ⟨rfl,.ret,s',Ug,rfl⟩,k3,k4⟩
    |exit id=>
     obtain⟨s',Ug,n2,n3⟩:=UD;obtain⟨v,w',k1,k2,k3,k4⟩:=fin (some (.exit id)) s' W3 n2 n3;exact⟨v,w',k1,false,_,by rw[k2];rfl,.inr ⟨rfl,.exit id,s',Ug,rfl⟩,k3,k4⟩
    |goto t=>exact UD.elim
    |panic ch=>exact UD.elim
    |outgrown=>exact UD.elim
   |exit id=>exact hq.elim
   |goto t=>exact hq.elim
   |ret=>exact hq.elim
   |panic ch=>exact hq.elim
   |outgrown=>exact hq.elim
  refine key.mono ?_;rintro e W2 ⟨v,H',rfl,hor,VM,Xs⟩;have fin:∀ (st:LoopState) (pe:Option Code) (s:σ) (n_:st≠ .busy),Rel (((l,Blk.obj (.loop (rec st pe)))::cg d::Hx s)++([]++(ap Hr Tr++F))) W2->
    ∃w4,(Instr.endLoop l).run P W2=.ok pe w4/\Rel ((cg d::(Hx s++ap Hr Tr))++F) w4/\Below 0 W1 w4:=by
   intro st pe s n_ h4;have h5:Rel ((l,Blk.obj (.loop (rec st pe)))::(cg d::(Hx s++(ap Hr Tr++F)))) W2:=h4;have Uy:W2.heap[l]?=some (.loop (rec st pe)):=h5.holds _ aaC;have iO:=run_endLoop (P:=P) Uy (by rw[Ui];exact n_);refine⟨W2.putObj l (.loop { rec st pe with state:=.exhausted }),?_,?_,Xs.trans (dJ)⟩
   ·rw[iO,Ui]
   ·have h6:=h5.putObj (F:=[]) (.obj (.loop { rec st pe with state:=.exhausted }));have h7:=Rel.drop (X:=[(l,Blk.obj (.loop { rec st pe with state:=.exhausted }))]) (H:=cg d::(Hx s++(ap Hr Tr++F))) h6;rw[<- aaF] at h7;exact h7
  have hFd:Fm N (coll d::D) L { a with defers:=[coll d]++a.defers }:=⟨hF.size,by rw[hF.defs];rfl,hF.has⟩;rcases hor with ⟨s,hs,rfl⟩|⟨c,s,hs,rfl⟩
  ·obtain⟨w4,k1,k2,k3⟩:=fin .ready none s (by simp) VM;exact⟨none,w4,k1,Uj d s hs _ w4 hFd k2 (hB.trans (hB1.trans k3))⟩
  ·obtain⟨w4,k1,k2,k3⟩:=fin .done (some c) s (by simp) VM;exact⟨some c,w4,k1,Uf d c s hs _ w4 hFd k2 (hB.trans (hB1.trans k3))⟩
theorem Ed{body:Code}{encs:α->Array Value}{xs:List α}(hi:dw L g=true)(hg:cN L g=.func (.func gf) #[] lb)(eg:∀args w,(callFunc gf args).run P w=.ok (.enter gf args) w)
  {Ax:σ->HL} {Tx:σ->List HL} {I:Nat->σ->Prop} (Ix:Code->σ->Prop) (La:τ->FL) (Ha:τ->HL) (Ia:Nat->α->τ->Prop) (hps:∀x,(encs x).size=ps.size) (WX:(ps.toList.all λ p=>decide (p<N))=true)
  {x0:σ} (h0:I 0 x0) {ip ir jp:List Nat} (hp:(ip++ir).isPerm (List.range A.length)=true) (hj:(jp++jr).isPerm (List.range Ts.length)=true) {Hr:HL} {Tr:List HL} (hHr:ir.filterMap (A[·]?)=Hr) (hTr:jr.filterMap (Ts[·]?)=Tr) (hA:ip.filterMap (A[·]?)=Ax x0) (hT:jp.filterMap (Ts[·]?)=Tx x0)
  (hit:It P gf lb (ap Hr Tr++F) encs xs)
  (BY:∀ (l i:Nat) (x:α) (s:σ) (Y:HL) (w1:World),xs[i]?=some x->I i s->TR (some l) P N [] (Y++(ap Hr Tr++F)) w1 (qy ps.toList (encs x).toList L) (ap (Ax s) (Tx s)) assign (Exit.then (OD N [] (Y++(ap Hr Tr++F)) w1 La Ha (Ia i x)) (λ _ _ _=>False)))
  (Uk:∀ (l i:Nat) (x:α) (t:τ) (Y:HL) (w1:World),xs[i]?=some x->Ia i x t->TR (some l) P N [] (Y++(ap Hr Tr++F)) w1 (La t) (Ha t) body (RQ (Y++(ap Hr Tr++F)) w1 (λ s=>ap (Ax s) (Tx s)) (I (i+1)) Ix))
  (Uj:∀ (d:Nat) (s:σ),I xs.length s->EX N (coll d::D) F w0 L (ap (cg d::(Ax s++Hr)) (Tx s++Tr)) Q .normal)
  (Uf:∀ (d:Nat) (c:Code) (s:σ),Ix c s->TR none P N (coll d::D) F w0 L (ap (cg d::(Ax s++Hr)) (Tx s++Tr)) c Q) :
  TR none P N D F w0 L (ap A Ts) (.rangeFunc g ps assign body) Q:=by
 have hpm:∀ (d:Nat) (s:σ),(ap (cg d::(Ax s++Hr)) (Tx s++Tr)).Perm (cg d::(ap (Ax s) (Tx s)++ap Hr Tr)):=λ d s=>by
  show (cg d::((Ax s++Hr)++(Tx s++Tr).flatten)).Perm _;refine List.Perm.cons _ ?_;rw[acT];show ((Ax s++Hr)++((Tx s).flatten++Tr.flatten)).Perm ((Ax s++(Tx s).flatten)++(Hr++Tr.flatten));rw[aaF,aaF];refine ab0 _ ?_;rw[<- aaF,<- aaF];exact aa5 _ aa4
 exact TR.range hi hg eg (λ s=>ap (Ax s) (Tx s)) I Ix La Ha Ia hps WX x0 h0 ip ir jp jr hp hj Hr Tr hHr hTr (by rw[hA,hT]) hit BY Uk
  (λ d s hs a w h1 h2 h3=>Uj d s hs a w h1 (h2.perm ((hpm d s).append_right F)) h3) (λ d c s hs a w h1 h2 h3=>Uf d c s hs a w h1 (h2.perm ((hpm d s).append_right F)) h3)
theorem nR{fn:Func}{tmps:Array Value}{R:Ending->World->Prop}:∀ (ds:List Nat) (H:HL) (w:World),Rel (ds.map cg++H) w->Below 0 w0 w->(∀w',Rel H w'->Below 0 w0 w'->LeavesIn (Wr none) 0 P fn tmps R [] .returning w')->
  LeavesInM (Wr none) 0 P fn tmps R (ds.map coll) .returning w
 | [],H,w,h,hB,hk=>hk w h hB
 |d::ds,H,w,h,hB,hk=>by
  have hd:w.heap[d]?=some (.deferred (some [])):=h.holds (cg d) (by simp);have h1:Rel ((d,Blk.obj (.deferred (some [])))::(ds.map cg++H)) w:=h;have h2:=(h1.putObj (F:=[]) (.obj (.deferred none)));exact⟨by simp,.inl ⟨d,_,rfl,run_takeDeferred hd,nR ds H _ (Rel.drop (X:=[(d,Blk.obj (.deferred none))]) h2) (hB.trans (dJ)) hk⟩⟩
theorem xB{f:FuncId}{c:Code}{args:Array Value}(hf:P.funcs[f]?=some fn)(hb:fn.body=some c)(hn:fn.ntmps=N)(ha:decide (args.size<=N)=true)
  {L:FL} (hL:ll 0 args.toList=L) (h:∀w0,TR none P N [] F w0 L H c (bodyPostM (Wr none) 0 P fn (ub F w0 R))):Sp P f args H F R:=by
 intro w hR;refine(callsIn_wide (n:=0)).1 (callsIn_of_wp_marks (F:=Wr none) hf hb trivial ?_);have ha':args.size<=N:=abh ha;refine h w _ w ⟨?_,rfl,?_⟩ hR (jt _ _)
 ·simp[hn];omega
 ·subst hL;intro t v ht;obtain⟨_,h2⟩:=kh 0 _ t v ht;have h3:args[t]?=some v:=by simpa using h2
  have iN:t<args.size:=(fx.1 h3).1;simp only;rw[acR iN];exact h3
theorem retM{rs:List ResultVar}(X4:fn.results=⟨rs⟩)(ds:List Nat)(hD:D=ds.map coll)(dx ax:List Nat)(Ro:HL)(hints:List Hint)(v:Value)(E:List Nat)(Ob:List Prop)
  {A1:HL} (hdp:(dx++ax).isPerm (List.range A.length)=true) (hdx:dx.filterMap (A[·]?)=ds.map cg) (hax:ax.filterMap (A[·]?)=A1)
  (h:∀n0,AD P n0 L rs (ap A1 Ts) Ro hints=some (v,E,E,Ob)) (Z8:∀y∈Ro,y∈F) (iS:AllP Ob) (ip ir jp jr:List Nat) (H':HL) (hp:(ip++ir).isPerm (List.range A1.length)=true) (hj:(jp++jr).isPerm (List.range Ts.length)=true) (hH:ap (ip.filterMap (A1[·]?)) (jp.filterMap (Ts[·]?))=H') (hv:R v H')
  (a:Act) (w:World) (hF:Fm N D L a) (hR:Rel (ap A Ts++F) w) (hB:Below 0 w0 w):LeavesInM (Wr none) 0 P fn a.tmps (ub F w0 R) a.defers .returning w:=by
 rw[hF.defs,hD];have h1:=fh A hdp;rw[hdx,hax] at h1;have V6:Rel (ds.map cg++(ap A1 Ts++F)) w:=by
  refine hR.perm ?_;rw[<- aaF,<- aaF];exact aa5 F (aa5 _ h1)
 refine nR ds _ w V6 hB ?_;intro w' VM Xs;have h':=h w'.heap.size;unfold AD at h';split at h'
 case h_2=>cases h'
 rename_i vs s hs;split at h'
 case h_2=>cases h'
 simp only[de,df] at h';obtain⟨e1,e2,e3,e4⟩:=h';have iO:=jK (P:=P) hF VM rs _ _ _ hs rfl rfl Z8 (λ e=>by cases e) (fP e2 e3) (by rw[e4];exact AllP.mem iS);subst e1;exact⟨_,jm X4 iO,_,H',rfl,hv,VM.takeT ip ir jp jr hp hj hH,Xs⟩
end
def aas:=@SlIs.nil
end Go.Proofs.YtjokannbjmndfaaGreatDoor
