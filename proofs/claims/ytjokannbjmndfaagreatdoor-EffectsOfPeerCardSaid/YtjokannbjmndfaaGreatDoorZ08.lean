import Derived.Test.YtjokannbjmndfaaGreatDoorZ07
import Derived.Test.YtjokannbjmndfaaGreatDoorZ05
import Derived.Test.YtjokannbjmndfaaGreatDoorProg
import Derived.Shelf.Small.Bits
import Derived.Shelf.Strconv.Itoa0
import Derived.Shelf.Sort.Plain
import Derived.Shelf.Slices.In.SortNone
set_option linter.all false
set_option maxHeartbeats 4000000
set_option maxRecDepth 100000
namespace Go.Proofs.YtjokannbjmndfaaGreatDoor
open IntKind
open Go.RowKit Go.Shelf
variable {A:Option Addr} {F G Hl:HL} {cap n:Nat} {w:World} (a b:Int)
abbrev af1:=Sp Tryz.prog
abbrev af0 (f:FuncId) (a:Array Value) (F:HL) (v:Value):Prop:=Sp Tryz.prog f a [] F λ u H'=>u=v/\H'=[]
section
variable {α:Type} (e:Enc α)
def SlX(T:TypeId)(l:List α)(A:Option Addr)(cap:Nat)(Hl:HL):Prop :=
 (A=none/\cap=0/\l=[]/\Hl=[])\/∃b o M full,A=some ⟨b,o*e.w,none⟩/\Hl=[(b,.rows e.w M (aD e full) T (0,0))]/\full.length=M/\o+cap<=M/\l.length<=cap/\(full.drop o).take l.length=l
theorem SlX.nil(T:TypeId):SlX e T [] none 0 []:=.inl ⟨rfl,rfl,rfl,rfl⟩
end
section
variable {α:Type} {e:Enc α} {T:TypeId} {l xs:List α} {A:Option Addr} {cap:Nat} {Hl F:HL}
theorem SlIs.x(h:SlIs e T l A cap Hl):SlX e T l A cap Hl:=by
 rcases h with h|⟨b,o,full,h1,h2,h3,h4,h5⟩
 ·exact .inl h
 ·exact .inr ⟨b,o,o+cap,full,h1,h2,h3,aaI _,h4,h5⟩
theorem SlX.len(h:SlX e T l A cap Hl):l.length<=cap:=by
 rcases h with ⟨_,rfl,rfl,_⟩|⟨b,o,M,full,h1,h2,h3,h4,h5,h6⟩
 ·simp
 ·exact h5
theorem SlX.toRowL(h:SlX e T l A cap Hl)(hF:∀x∈Hl,x∈F):RowL e T F A l.length l:=by
 rcases h with ⟨rfl,rfl,rfl,rfl⟩|⟨b,o,M,full,rfl,rfl,h1,hM,h2,h3⟩
 ·exact .zero _
 ·refine .rows b o M full (0,0) _ l (hF _ (eb.2 rfl)) (by omega) rfl (λ k hk=>?_);have h4:((full.drop o).take l.length)[k]?=l[k]?:=by rw[h3]
  rw[abn,if_pos hk,abi] at h4;rw[aaG,aaG,h4]
theorem SlX.cut(hs:SlX e T xs A cap Hl){k h m:Nat}(h1:k<=h)(h2:h<=xs.length)(h3:h<=m)(h4:m<=cap):SlX e T ((xs.take h).drop k) (AZ A k e.w m) (m-k) Hl:=by
 rcases hs with ⟨rfl,rfl,rfl,rfl⟩|⟨b,o,M,full,rfl,rfl,g1,g2,g3,g4⟩
 ·refine .inl ⟨?_,by omega,by simp,rfl⟩;unfold AZ slA;split <;> rfl
 ·have hl:((xs.take h).drop k).length=h-k:=by simp;omega
  by_cases hc:m=k
  ·refine .inr ⟨b,o,M,full,by unfold AZ slA;rw[if_pos hc],rfl,g1,by omega,by rw[hl];omega,?_⟩;have:(xs.take h).drop k=[]:=aa6 (by rw[hl];omega);rw[this];simp
  ·refine .inr ⟨b,o+k,M,full,?_,rfl,g1,by omega,by rw[hl];omega,?_⟩
   ·unfold AZ slA;rw[if_neg hc,UV,gH rfl];simp[tu,acE]
   ·rw[hl];have:(xs.take h).drop k=((full.drop o).take xs.length |>.take h).drop k:=by rw[g4]
    rw[this,adi,List.drop_take,adr,adm h2]
end
section
variable {α:Type} {e:Enc α} {P:Program} {t tx ty T:TypeId} {inf:TypeInfo} {z:Value}
theorem Ba(ok:EncOk e P T inf z)(ht:P.underlying t=some (.slice T)){l:List α}(h:SlX e T l A cap Hl)(hR:Rel (Hl++G) w){src:List α}{x:Value}
  (hs:Src P inf.size tx x src.length (ak e src) w) (hb:l.length+src.length<=100000000) :
  ∃A' iD z_ w',(Builtin.append_ #[t,tx] ty #[.slice A l.length cap,x]).run P w=.ok (.slice A' (l.length+src.length) iD) w'/\(SlX e T (l++src) A' iD z_/\(bn A->bn A'))/\Rel (z_++G) w'/\Below 0 w w':=by
 have hby:=ok.bytes;have VV:∀c,c<l.length+src.length->Builtin.nextslicecap (l.length+src.length) c*inf.bytes<=281474976710656:=λ c hc=>by
  have h1:=gX c hc;have h2:Builtin.nextslicecap (l.length+src.length) c*inf.bytes<=(2*100000000+192)*1000:=afI (by omega) hby;omega
 have grow:∀ (hg:cap<l.length+src.length) (hold:(Builtin.firstCells inf.size l.length (.slice A l.length cap)).run P w.drew=.ok (ak e l).toArray w.drew),∃A' iD z_ w',(Builtin.append_ #[t,tx] ty #[.slice A l.length cap,x]).run P w=.ok (.slice A' (l.length+src.length) iD) w'/\(SlX e T (l++src) A' iD z_/\(bn A->bn A'))/\Rel (z_++G) w'/\Below 0 w w':=by
  intro hg hold;have iO:=run_append_grow_src (P:=P) w t tx ty T inf z ht ok.info ok.zero A l.length cap (ak e l) hold x src.length (ak e src) hs hg (by omega) (VV cap hg);have Wq:=grownCap_ge w (l.length+src.length) cap T;generalize grownCap w (l.length+src.length) cap T=nc at *;refine⟨_,nc,[(w.heap.size,.rows e.w (0+nc) (aD e (l++src++List.replicate (nc-(l.length+src.length)) e.dflt)) T (0,0))],_,iO,⟨.inr ⟨w.heap.size,0,0+nc,l++src++List.replicate (nc-(l.length+src.length)) e.dflt,by simp,rfl,by simp;omega,by omega,by simp;omega,by rw[adq,abs (by simp),WP (by simp)]⟩,λ _=>rfl⟩,?_,?_⟩
  ·have VM:Rel G w:=hR.drop;have:=(Rel.cons (.rows e.w (0+nc) (aD e (l++src++List.replicate (nc-(l.length+src.length)) e.dflt)) T (0,0)) (o:=.cells ((ak e l++ak e src).toArray++Builtin.zeroCells z.cells (nc-(l.length+src.length))) T (0,0)) ?_ (VM.world (w':=w.drew) rfl))
   ·exact this
   ·show Obj.cells _ _ _=_;congr 1;apply Array.ext';show bj _ _ _=_;have hl:0+nc=(l++src++List.replicate (nc-(l.length+src.length)) e.dflt).length:=by simp;omega
    rw[hl,fQ,aN,aN,afi,ln ok]
  ·exact⟨rfl,rfl,rfl,by simp,λ k hk=>by omega⟩
 rcases h with ⟨rfl,rfl,rfl,rfl⟩|⟨b,o,M,full,rfl,rfl,UY,hM,hle,hl⟩
 ·-- nil
  rcases acq src.length with h0|h0
  ·obtain rfl:src=[]:=aa6 h0;refine⟨none,0,[],w,?_,⟨.inl ⟨rfl,rfl,by simp,rfl⟩,λ h=>h⟩,hR,jt _ _⟩;have hc:(Builtin.firstCells inf.size 0 x).run P w=.ok #[] w:=hs.cells;rcases hs.kind with ⟨e',hk⟩|hk <;> simp[Builtin.append_,run_underlying ht,run_underlying hk,Go.sizeOf,typeInfo,ok.info,hs.len,hc]
  ·exact grow (by simp;omega) (by simp[ak];exact run_firstCells_none w.drew inf.size 0 0 0)
 ·have U0:=hR.holds _ (aaB G (aaC));simp only[Blk.den] at U0;have WG:(bj e.w (aD e full) M).length=M*e.w:=cH;have IS:bj e.w (aD e full) M=ak e full:=by rw[<- UY];exact fQ e full
  by_cases DO:l.length+src.length<=cap
  ·-- there is room
   have L_:=ok.size;have Zm:(ak e src).length=src.length*e.w:=aI e src;have Vb:o*e.w+l.length*inf.size+(ak e src).length<=M*e.w:=by
    rw[Zm,L_,<- acE,<- acE];exact acJ _ (by omega)
   have TZ:∀j,j<(ak e src).length->(w.cell? ⟨b,o*e.w+l.length*inf.size+j,none⟩).isSome=true:=λ j hj=>by
    simp[World.cell?,U0,WG];omega
   have YK:∀j,j<(ak e src).length->w.frozen? ⟨b,o*e.w+l.length*inf.size+j,none⟩=false:=λ j hj=>by simp[World.frozen?,U0]
   have iO:=run_append_room_src (P:=P) w t tx ty T inf ht ok.info b (o*e.w) l.length cap x src.length (ak e src) hs DO TZ YK;have YU:=iV b (ak e src) (o*e.w+l.length*inf.size) w _ _ _ U0;have WJ:lm (bj e.w (aD e full) M) (o*e.w+l.length*inf.size) (ak e src)=ak e (full.take (o+l.length)++src++full.drop (o+l.length+src.length)):=by
    apply acg;intro j;rw[m5 _ _ _ (by rw[WG];exact Vb),IS,aN,aN];have c1:(ak e (full.take (o+l.length))).length=(o+l.length)*e.w:=by rw[aI,aaN];congr 1;omega
    have c0:o*e.w+l.length*inf.size=(o+l.length)*e.w:=by rw[L_,<- acE]
    have Vq:ak e full=ak e (full.take (o+l.length))++ak e (full.drop (o+l.length)):=by rw[<- aN,abt]
    have V9:ak e (full.drop (o+l.length))=ak e ((full.drop (o+l.length)).take src.length)++ak e (full.drop (o+l.length+src.length)):=by
     rw[<- aN,show o+l.length+src.length=(o+l.length)+src.length from rfl,<- adr (i:=src.length) (j:=o+l.length),abt]
    have c2:(ak e ((full.drop (o+l.length)).take src.length)).length=src.length*e.w:=by rw[aI,aaN,aaY];congr 1;omega
    rw[c0]
    by_cases h1:j<(o+l.length)*e.w
    ·rw[if_neg (by omega),Vq,aaF,aa2 (by omega),aa2 (by omega)]
    ·by_cases h2:j<(o+l.length)*e.w+src.length*e.w
     ·rw[if_pos (by omega),aaF,aa3 (by omega),aa2 (by omega),c1]
     ·rw[if_neg (by omega),Vq,V9,aaF,aa3 (by omega),aa3 (by omega),aa3 (by omega),aa3 (by omega),c1,c2,Zm]
   have YN:(full.take (o+l.length)++src++full.drop (o+l.length+src.length)).length=M:=by simp;omega
   refine⟨_,cap,[(b,.rows e.w M (aD e (full.take (o+l.length)++src++full.drop (o+l.length+src.length))) T (0,0))],_,iO,⟨.inr ⟨b,o,M,_,rfl,rfl,YN,hM,by simp;omega,?_⟩,λ h=>h⟩,?_,iX _ _ _ _⟩
   ·have h1:full.take (o+l.length)=full.take o++l:=by rw[List.take_add,hl]
    rw[h1,aaF,aaF,acn (by simp;omega),aco (by rw[aaN];omega),WF,<- aaF];rw[abs (by simp)];exact WP (by simp)
   ·refine⟨?_,by have:=hR.nodup;simpa using this⟩;intro y hy;rcases abL.1 hy with rfl|hy
    ·rw[YU,WJ];simp only[Blk.den];rw[<- YN,fQ]
    ·have u_:y.1≠b:=by
      have:=hR.nodup;simp only[abB,WF,acF,acX] at this;intro e1;exact this.1 (by rw[<- e1];exact acU hy)
     rw[iW b _ _ _ _ u_];exact hR.holds y (aaz _ hy)
  ·refine grow (by omega)<|run_firstCells_some w.drew inf.size l.length ⟨b,o*e.w,none⟩ l.length cap (ak e l) (by rw[aI,ok.size]) ?_;intro j u hj;have W0:j<(ak e l).length:=(bt.1 hj).1;rw[aI] at W0;have No:ak e l=((ak e full).drop (o*e.w)).take (l.length*e.w):=by
    have h1:ak e full=ak e (full.take o)++(ak e l++ak e ((full.drop o).drop l.length)):=by
     rw[<- aN,<- aN];congr 1
     conv=>lhs;rw[<- abt o full]
     congr 1
     conv=>lhs;rw[<- abt l.length (full.drop o)]
     rw[hl]
    have c1:(ak e (full.take o)).length=o*e.w:=by rw[aI,aaN];congr 1;omega
    rw[h1,acn (by omega),aco (by omega),WF,abs (by rw[aI];exact aaI _),WP (by rw[aI];exact aaI _)]
   rw[Addr.add_lit];show World.cell? w ⟨b,o*e.w+j,none⟩=some u;simp only[World.cell?,U0,IS];rw[No,abn,if_pos (by omega),abi] at hj;simpa using hj
theorem rC{N:Nat}{D:List Deferred}{L:FL}{H:HL}(ok:EncOk e P T inf z){o:Oper}{a1 a2:Operand}(C_:o.op=.call { callee:=.builtin .append,args:=#[a1,a2],argTypes:=#[t,tx] })(ht:P.underlying t=some (.slice T))
  {l src:List α} {x:Value} (hi:(dw L a1 && dw L a2)=true) (h1:cN L a1=.slice A n cap) (hn:n=l.length) (h2:cN L a2=x) (o_:(Hl++G).Perm H) (Wp:SlX e T l A cap Hl)
  (hs:∀w,Rel (H++F) w->Src P inf.size tx x src.length (ak e src) w) (hb:l.length+src.length<=100000000) {a:Act} (hF:Fm N D L a) (hR:Rel (H++F) w) :
  b9 P o a w λ u w'=>∃y:Option Addr×Nat×HL,(u=.slice y.1 (n+src.length) y.2.1/\(SlX e T (l++src) y.1 y.2.1 y.2.2/\(bn A->bn y.1)))/\Rel ((y.2.2++G)++F) w'/\Below 0 w w':=by
 subst hn;simp only[abc] at hi;have e1:=(hF.eval hi.1).trans h1;have e2:=(hF.eval hi.2).trans h2;have IF:Rel (Hl++(G++F)) w:=by rw[<- aaF];exact hR.perm (o_.append_right F)
 obtain⟨A',iD,z_,w',r1,r2,r3,r4⟩:=Ba (ty:=o.type) ok ht Wp IF (hs w hR) hb;unfold b9;have iO:(execOp a.eval o).run P w=.ok (.value (.slice A' (l.length+src.length) iD)) w':=by
  simp[execOp,C_,resolve,invoke,builtin,abg,e1,e2,r1]
 rw[iO];exact⟨(A',iD,z_),⟨rfl,r2⟩,by rw[aaF];exact r3,r4⟩
end
section
variable {r:Option Nat} {P:Program} {N:Nat} {D:List Deferred} {F:HL} {w0:World} {R:HL} {s:Cfg} {Q:Exit->Act->World->Prop} {hards:List Nat} {Rd:HL}
variable {α:Type} {e:Enc α} {T:TypeId} {inf:TypeInfo} {z:Value}
theorem RN.appX(ok:EncOk e P T inf z)(l src:List α)(j p:Nat)(hn:n=l.length)(Wp:SlX e T l A cap Hl)(hb:l.length+src.length<=100000000)
  (hk:∀ (A':Option Addr) (iD:Nat) (z_:HL),(SlX e T (l++src) A' iD z_/\(bn A->bn A'))->RN r P N D F w0 R (ON j z_ (cR N (.slice A' (n+src.length) iD) s)) Q)
  (h:Ek P N j p (eU s) s=some (A,n,cap,T,src.length,ak e src,Hl,El p s):=by kernel_rfl):RN r P N D F w0 R s Q:=by
 obtain⟨o,a1,a2,t,tx,e',c',b,ty,fz,q0,q1,q2,q3,q4,q5,q6,q7,q8,q9,I_,Ud⟩:=lW h;refine⟨λ hR a w hF aT hB=>?_⟩;obtain⟨c,k,L,B,Ts⟩:=s;unfold eU at q0;cases c with
 |code c=>cases q0
 |ex c=>cases q0
 |drw _ _=>cases q0
 |ops ops i=>
  simp only at q0 q3 q4 q5 q8 q9 I_ Ud hF aT;have oR:ops.toList.drop i=o::ops.toList.drop (i+1):=by
   have iN:i<ops.toList.length:=(bt.1 q0).1;rw[eB iN,(bt.1 q0).2]
  show wpListIn _ _ _ _ _ _ _ _;rw[oR,wpListIn,if_pos (by simp[Region.wanted,q1])];refine⟨λ _ _=>trivial,?_⟩;have o_:=gi (A:=B) q9 I_;refine dM (by rw[q2];intro c hc;cases hc) (rC (x:=vS b 0 src.length c') (src:=src) (G:=B++((oth [j] Ts.length).filterMap (Ts[·]?)).flatten) ok q2 q6 q3 q4 hn q5 o_ Wp (λ w hw=>qK ok q7 p (by rw[aa2 (bt.1 q8).1];exact q8) hw) hb hF aT) ?_;rintro u w' ⟨⟨A',iD,z_⟩,⟨rfl,Xc⟩,IF,VY⟩;obtain⟨L',p1⟩:=cr Ud (.slice A' (n+src.length) iD);have hh:=(hk A' iD z_ Xc).h hR;have Of:cR N (.slice A' (n+src.length) iD) ⟨.ops ops i,k,L,B,Ts⟩=⟨.ops ops (i+1),k,L',B,Ts⟩:=by
   unfold cR;simp only[q0,p1]
  rw[Of] at hh;refine hh _ w' (hF.put p1) (IF.perm (aa5 F ?_)) (hB.trans VY);show (B++(z_::(oth [j] Ts.length).filterMap (Ts[·]?)).flatten).Perm _;rw[abe,<- aaF,<- aaF];exact aa5 _ aa4
theorem RDO.appX{i:Nat}(ix:List Nat)(ok:EncOk e P T inf z)(l src:List α)(j p:Nat)(hn:n=l.length)(Wp:SlX e T l A cap Hl)(hb:l.length+src.length<=100000000)
  (hk:∀ (A':Option Addr) (iD:Nat) (z_:HL),(SlX e T (l++src) A' iD z_/\(bn A->bn A'))->RD r P N D F w0 R hards Rd (ON j z_ (mH N i (.slice A' (n+src.length) iD) s)) Q)
  (h:Ek P N j p (eL i s) s=some (A,n,cap,T,src.length,ak e src,Hl,El p s):=by kernel_rfl) (hx:(hards.contains i,AR ix s)=(true,Rd):=by kernel_rfl):RDO r P N D F w0 R hards Rd i s Q:=by
 obtain⟨o,a1,a2,t,tx,e',c',b,ty,fz,q0,q1,q2,q3,q4,q5,q6,q7,q8,q9,I_,Ud⟩:=lW h;obtain⟨c,k,L,B,Ts⟩:=s;unfold eL at q0;simp only[df] at hx;cases c with
 |code c=>cases q0
 |ex c=>cases q0
 |ops _ _=>cases q0
 |drw ops li=>
  refine⟨λ hR=>?_⟩;simp only at q0 q3 q4 q5 q8 q9 I_ Ud;have o_:=gi (A:=B) q9 I_;have Of:∀v L',cD N o.dst v L=some L'->mH N i v ⟨.drw ops li,k,L,B,Ts⟩=⟨.drw ops (aS li i true),k,L',B,Ts⟩:=by
   intro v L' hl;unfold mH;simp only[q0,hl]
  refine(iZ (Q:=Q) (by simpa using q0) (σ:=Option Addr×Nat×HL) (λ u y=>u=.slice y.1 (n+src.length) y.2.1/\(SlX e T (l++src) y.1 y.2.1 y.2.2/\(bn A->bn y.1))) (λ y=>ap B (y.2.2::(oth [j] Ts.length).filterMap (Ts[·]?))) Ud (λ a hF=>⟨by simp[Region.wanted,q1],λ w aT hB=>?_⟩) (λ y=>⟨λ hi=>?_,λ hi x hm=>aaB _ (rt ix hx.2 x hm)⟩) ?_:RDO r P N D F w0 R hards Rd i ⟨.drw ops li,k,L,B,Ts⟩ Q).h hR
  ·refine eT (rC (x:=vS b 0 src.length c') (src:=src) (G:=B++((oth [j] Ts.length).filterMap (Ts[·]?)).flatten) ok q2 q6 q3 q4 hn q5 o_ Wp (λ w hw=>qK ok q7 p (by rw[aa2 (bt.1 q8).1];exact q8) hw) hb hF aT) ?_;rintro u w' ⟨y,h3,IF,VY⟩;refine⟨y,h3,IF.perm (aa5 F ?_),VY⟩;show (B++(y.2.2::(oth [j] Ts.length).filterMap (Ts[·]?)).flatten).Perm _;rw[abe,<- aaF,<- aaF];exact aa5 _ aa4
  ·exact absurd (abI.1 hx.1) hi
  ·rintro u ⟨A',iD,z_⟩ ⟨rfl,h3⟩ L' hl hs;have h1:=(hk A' iD z_ h3).h hR;rw[Of _ L' hl] at h1;exact h1 hs
end
abbrev aV(n:Int):Int:=i64.wrap n
structure V2 where (x y:Int)
structure Bx where (x0 y0 x1 y1:Int)
structure Mot where (px py vx vy inv:Int)
structure Con where (nx ny d:Int)
def bF(n lo hi:Int):Int:=if n<lo then lo else if n>hi then hi else n
def ls(a b:Int):Int:=if b=0 then 0 else if (a.tmod b>0/\b<0)\/(a.tmod b<0/\b>0) then aV (aV (a.tdiv b)-1) else aV (a.tdiv b)
def f9(a b:Int):Int:=ls (aV (a*b)) 1024
def av(a b c:Int):Int:=ls (aV (a*b)) c
theorem dG(n:Int)(lo:Int)(hi:Int):af0 186 #[vI n,vI lo,vI hi] F (vI (bF n lo hi)):=by
 refine QG Tryz.func186<|OG 15<|aal (n<lo) 7 (λ h1=>?_) λ h1=>?_
 ·refine OG 7<|QJ (vI lo) [] ⟨by unfold bF;simp[*],rfl⟩
 ·refine OG 9<|aal (n>hi) 12 (λ h2=>?_) λ h2=>?_
  ·refine OG 7<|QJ (vI hi) [] ⟨by unfold bF;simp[*],rfl⟩
  ·refine OG 10<|QJ (vI n) [] ⟨by unfold bF;simp[*],rfl⟩
theorem nV:af0 233 #[vI a,vI b] F (vI (ls a b)):=by
 refine QG Tryz.func233<|OG 12<|aal (b=0) 8 (λ h1=>?_) λ h1=>?_
 ·refine OG 6<|QJ (vI 0) [] ⟨by unfold ls;simp[*],rfl⟩
 ·refine OG 4<|aak [] []<|aH [] [0,1,3,4,2,5,6,7] [.dv,.dv] [b≠0,b≠0]<|QQ 13<|aal (a.tmod b>0) 18 (λ h2=>?_) λ h2=>?_
  ·refine OG 6<|aal (b<0) 15 (λ h3=>?_) λ h3=>?_
   ·refine OG 23<|QJ (vI (i64.wrap ((i64.wrap (a.tdiv b))-1))) [] ⟨by unfold ls;simp[*],rfl⟩
   ·refine OG 8<|aal (a.tmod b<0) 25 (λ h4=>?_) λ h4=>?_
    ·refine OG 6<|aal (b>0) 22 (λ h5=>?_) λ h5=>?_
     ·refine OG 22<|QJ (vI (i64.wrap ((i64.wrap (a.tdiv b))-1))) [] ⟨by unfold ls;simp[*],rfl⟩
     ·refine OG 15<|QJ (vI (i64.wrap (a.tdiv b))) [] ⟨by unfold ls;simp[*],rfl⟩
    ·refine OG 21<|QJ (vI (i64.wrap (a.tdiv b))) [] ⟨by unfold ls;simp[*],rfl⟩
  ·refine OG 14<|aal (a.tmod b<0) 25 (λ h6=>?_) λ h6=>?_
   ·refine OG 6<|aal (b>0) 22 (λ h7=>?_) λ h7=>?_
    ·refine OG 22<|QJ (vI (i64.wrap ((i64.wrap (a.tdiv b))-1))) [] ⟨by unfold ls;simp[*],rfl⟩
    ·refine OG 15<|QJ (vI (i64.wrap (a.tdiv b))) [] ⟨by unfold ls;simp[*],rfl⟩
   ·refine OG 21<|QJ (vI (i64.wrap (a.tdiv b))) [] ⟨by unfold ls;simp[*],rfl⟩
theorem nW:af0 215 #[vI a,vI b] F (vI (f9 a b)):=by
 refine QG Tryz.func215<|OG 10<|aah (nV (i64.wrap (a*b)) 1024)<|ae 3 [] λ _=>QJ _ _ ⟨rfl,rfl⟩
theorem gj(c:Int):af0 242 #[vI a,vI b,vI c] F (vI (av a b c)):=by
 refine QG Tryz.func242<|OG 11<|aah (nV (i64.wrap (a*b)) c)<|ae 3 [] λ _=>QJ _ _ ⟨rfl,rfl⟩
end Go.Proofs.YtjokannbjmndfaaGreatDoor
namespace Go.Proofs
open IntKind
open Go.Shelf
def pd:Go.Shelf.Ren:=⟨λ|125=>127|128=>176|129=>177|n=>n,λ|46=>243|3=>3|51=>284|53=>286|4=>4|5=>5|9=>9|n=>n,λ|n=>n⟩
theorem vR:Go.Proofs.Lays.n125 Tryz.prog pd:={
 mixed:=by kernel_rfl
 f125:=Tryz.func127.trans (congrArg some (by kernel_rfl))
 f128:=Tryz.func176.trans (congrArg some (by kernel_rfl))
 f129:=Tryz.func177.trans (congrArg some (by kernel_rfl))
 t3:=Tryz.underlying3
 a3:=Tryz.isAgg3
 z3:=Tryz.sizeOf3
 v3:=Tryz.zeroValue3
 t4:=Tryz.underlying4
 a4:=Tryz.isAgg4
 z4:=Tryz.sizeOf4
 v4:=Tryz.zeroValue4
 t5:=Tryz.underlying5
 a5:=Tryz.isAgg5
 z5:=Tryz.sizeOf5
 v5:=Tryz.zeroValue5
 t9:=Tryz.underlying9
 a9:=Tryz.isAgg9
 z9:=Tryz.sizeOf9
 v9:=Tryz.zeroValue9
 t46:=Tryz.underlying243
 a46:=Tryz.isAgg243
 z46:=Tryz.sizeOf243
 v46:=Tryz.zeroValue243
 t51:=Tryz.underlying284
 a51:=Tryz.isAgg284
 z51:=Tryz.sizeOf284
 v51:=Tryz.zeroValue284
 t53:=Tryz.underlying286
 a53:=Tryz.isAgg286
 z53:=Tryz.sizeOf286
 v53:=Tryz.zeroValue286 }
theorem Tryz.bits_Len(x:Int)(w:World)(h0:0<=x)(h1:x<=18446744073709551615) :
 Calls Tryz.prog 127 #[.int .u64 x] w λ e w'=>e=.returned (.int .i64 (Lib.bitLen x.toNat))/\w'=w:=Any.bits_Len vR x w h0 h1
def pf:Go.Shelf.Ren:=⟨λ|189=>98|125=>127|257=>126|128=>176|129=>177|294=>167|295=>168|296=>169|297=>170|298=>171|299=>172|216=>173|300=>174|301=>175|328=>204|329=>205|330=>206|331=>207|332=>208|215=>209|343=>230|n=>n,λ|28=>22|3=>3|46=>243|0=>0|51=>284|53=>286|4=>4|183=>277|182=>276|131=>146|5=>5|9=>9|218=>302|222=>306|228=>324|229=>325|n=>n,λ|n=>n⟩
theorem nX:Go.Proofs.Lays.n189 Tryz.prog pf:={
 mixed:=by kernel_rfl
 f125:=Tryz.func127.trans (congrArg some (by kernel_rfl))
 f128:=Tryz.func176.trans (congrArg some (by kernel_rfl))
 f129:=Tryz.func177.trans (congrArg some (by kernel_rfl))
 f189:=Tryz.func98.trans (congrArg some (by kernel_rfl))
 f215:=Tryz.func209.trans (congrArg some (by kernel_rfl))
 f216:=Tryz.func173.trans (congrArg some (by kernel_rfl))
 f257:=Tryz.func126.trans (congrArg some (by kernel_rfl))
 f294:=Tryz.func167.trans (congrArg some (by kernel_rfl))
 f295:=Tryz.func168.trans (congrArg some (by kernel_rfl))
 f296:=Tryz.func169.trans (congrArg some (by kernel_rfl))
 f297:=Tryz.func170.trans (congrArg some (by kernel_rfl))
 f298:=Tryz.func171.trans (congrArg some (by kernel_rfl))
 f299:=Tryz.func172.trans (congrArg some (by kernel_rfl))
 f300:=Tryz.func174.trans (congrArg some (by kernel_rfl))
 f301:=Tryz.func175.trans (congrArg some (by kernel_rfl))
 f328:=Tryz.func204.trans (congrArg some (by kernel_rfl))
 f329:=Tryz.func205.trans (congrArg some (by kernel_rfl))
 f330:=Tryz.func206.trans (congrArg some (by kernel_rfl))
 f331:=Tryz.func207.trans (congrArg some (by kernel_rfl))
 f332:=Tryz.func208.trans (congrArg some (by kernel_rfl))
 f343:=Tryz.func230.trans (congrArg some (by kernel_rfl))
 t0:=Tryz.underlying0
 a0:=Tryz.isAgg0
 z0:=Tryz.sizeOf0
 v0:=Tryz.zeroValue0
 t3:=Tryz.underlying3
 a3:=Tryz.isAgg3
 z3:=Tryz.sizeOf3
 v3:=Tryz.zeroValue3
 t4:=Tryz.underlying4
 a4:=Tryz.isAgg4
 z4:=Tryz.sizeOf4
 v4:=Tryz.zeroValue4
 t5:=Tryz.underlying5
 a5:=Tryz.isAgg5
 z5:=Tryz.sizeOf5
 v5:=Tryz.zeroValue5
 t9:=Tryz.underlying9
 a9:=Tryz.isAgg9
 z9:=Tryz.sizeOf9
 v9:=Tryz.zeroValue9
 t28:=Tryz.underlying22
 a28:=Tryz.isAgg22
 z28:=Tryz.sizeOf22
 v28:=Tryz.zeroValue22
 t46:=Tryz.underlying243
 a46:=Tryz.isAgg243
 z46:=Tryz.sizeOf243
 v46:=Tryz.zeroValue243
 t51:=Tryz.underlying284
 a51:=Tryz.isAgg284
 z51:=Tryz.sizeOf284
 v51:=Tryz.zeroValue284
 t53:=Tryz.underlying286
 a53:=Tryz.isAgg286
 z53:=Tryz.sizeOf286
 v53:=Tryz.zeroValue286
 t131:=Tryz.underlying146
 a131:=Tryz.isAgg146
 z131:=Tryz.sizeOf146
 v131:=Tryz.zeroValue146
 t182:=Tryz.underlying276
 a182:=Tryz.isAgg276
 z182:=Tryz.sizeOf276
 v182:=Tryz.zeroValue276
 t183:=Tryz.underlying277
 a183:=Tryz.isAgg277
 z183:=Tryz.sizeOf277
 v183:=Tryz.zeroValue277
 t218:=Tryz.underlying302
 a218:=Tryz.isAgg302
 z218:=Tryz.sizeOf302
 v218:=Tryz.zeroValue302
 t222:=Tryz.underlying306
 a222:=Tryz.isAgg306
 z222:=Tryz.sizeOf306
 v222:=Tryz.zeroValue306
 t228:=Tryz.underlying324
 a228:=Tryz.isAgg324
 z228:=Tryz.sizeOf324
 v228:=Tryz.zeroValue324
 t229:=Tryz.underlying325
 a229:=Tryz.isAgg325
 z229:=Tryz.sizeOf325
 v229:=Tryz.zeroValue325 }
open Go.Sort Go.RowKit in
theorem Tryz.slices_Sort_int(blk off cap:Nat)(zs:List Int)(w:World)(hH:Holds (Value.int .i64) w blk off zs.toArray)(U0:blk<w.heap.size)(L_:zs.length<4611686018427387904) :
 Calls Tryz.prog 98 #[.slice (some ⟨blk,off,none⟩) zs.length cap] w λ e w'=>
  e=.returned (.tuple #[])/\∃n os,w'=grow (putRow (Value.int .i64) (Sort.ahead w n) blk off (zs.mergeSort λ x y=>decide (x<=y)).toArray) os:=Any.slices_Sort_int nX blk off cap zs w hH U0 L_
open Go.RowKit Go.Sort in
theorem Tryz.slices_Sort_int_none(p:Option Addr)(cap:Nat)(w:World) :
 Calls Tryz.prog 98 #[.slice p 0 cap] w λ e w'=>e=.returned (.tuple #[])/\w'=w:=Any.slices_Sort_int_none nX p cap w
end Go.Proofs
namespace Go.Proofs.YtjokannbjmndfaaGreatDoor
open IntKind
open Go.RowKit
variable {A:Option Addr} {F Hl:HL} {M a b cap mb rb tq w:Nat} {full:List (Int×Int)} {ms:List Int} {t:Int} (n:Int) (o:Nat)
abbrev Hc(n:Int):Int:=u64.wrap n
theorem vT:0<=Hc n/\Hc n<=18446744073709551615:=by
 show 0<=u64.wrap n/\u64.wrap n<=_;unfold IntKind.wrap;simp[IntKind.signed,IntKind.bits];omega
abbrev Er(n:Int):Int:=(Lib.bitLen (Hc n).toNat:Int)
theorem He:af0 127 #[.int .u64 (Hc n)] F (vI (Er n)) :=
 xz (λ w=>Tryz.bits_Len _ w (vT n).1 (vT n).2) F
theorem LH:0<=Er n/\Er n<=64:=by
 have h:=vT n;have:=Lib.bitLen_le (Hc n).toNat 64 (by omega) (by omega);unfold Er;omega
def LI(r:Int)(k:Nat):Int:=aV ((BitVec.ofInt 64 r ||| BitVec.ofInt 64 (aV (1*2 ^ min k 64))).toNat:Int)
def vU(n:Int):Nat->Int->Int
 |0,r=>r
 |k+1,r=>vU n k (if LI r k>aV (n.tdiv (LI r k)) then r else LI r k)
def Es(n:Int):Int:=aV (aV ((aV (Er n+1)).tdiv 2)-1)
def vV(n:Int):Int:=if n<=0 then 0 else vU n (Es n+1).toNat 0
theorem SQ{v:BitVec 64}(h:aV (v.toNat:Int)=0):v=0#64:=by
 apply BitVec.eq_of_toNat_eq;have h2:v.toNat<18446744073709551616:=v.isLt;generalize v.toNat=m at *;rw[aV,IntKind.wrap_i64] at h;simp;omega
theorem OP(r:Int){k:Nat}(hk:k<40):LI r k≠0:=by
 intro h;have hb:BitVec.ofInt 64 (aV (1*2 ^ min k 64))≠0#64:=by
  have:∀k<40,BitVec.ofInt 64 (aV (1*2 ^ min k 64))≠0#64:=by decide
  exact this k hk
 have h1:=SQ h;clear h;generalize BitVec.ofInt 64 (aV (1*2 ^ min k 64))=b at *;generalize BitVec.ofInt 64 r=a at *;apply hb;have:(a ||| b) &&& b=b:=by
  apply BitVec.eq_of_getLsbD_eq;intro i hi;simp;intro h;exact .inr h
 rw[h1] at this;simpa using this.symm
theorem CP:-1<=Es n/\Es n<=31:=by
 have:=LH n;unfold Es aV;generalize Er n=l at *;have e1:i64.wrap (l+1)=l+1:=by rw[IntKind.wrap_i64];omega
 rw[e1,afu (by omega)];have e2:i64.wrap ((l+1)/2)=(l+1)/2:=by rw[IntKind.wrap_i64];omega
 rw[e2,IntKind.wrap_i64];omega
theorem cP{x:Int}(h:-9223372036854775808<=x/\x<=9223372036854775807):aV x=x:=by
 rw[aV,IntKind.wrap_i64];omega
theorem xH{n r s:Int}{k:Int}(h0:¬ s<0)(h:vU n (s+1).toNat r=k):vU n s.toNat (if LI r s.toNat>aV (n.tdiv (LI r s.toNat)) then r else LI r s.toNat)=k:=by
 have e:(s+1).toNat=s.toNat+1:=by omega
 rw[e,vU] at h;exact h
theorem Et:af0 305 #[vI n] F (vI (vV n)):=by
 refine QG Tryz.func305<|OG 13<|aal (n<=0) 7 (λ h1=>?_) λ h1=>?_
 ·refine OG 6<|QJ (vI 0) [] ⟨?_,rfl⟩;unfold vV
  first|(simp[*];done)|(have e:(s+1).toNat=0:=by omega);(rw[e,vU] at hI2);(simp[*])
 ·refine OG 16<|aah (He n)<|OG 7<|aan (σ:=Int×Int) (λ ⟨r,s⟩=>⟨[(0,vI n),(3,vI r),(4,vI s)],[],[],-1<=s/\s<=31/\vU n (s+1).toNat r=vU n (Es n+1).toNat 0,(s+1).toNat⟩) (0,Es n) [] [] (⟨(CP n).1,(CP n).2,rfl⟩) ?_;rintro⟨r,s⟩ ⟨hI0,hI1,hI2⟩ UC;have hw:s>=0->i64.wrap (s-1)=s-1:=λ _=>cP (by omega);have No:(s-1+1).toNat=s.toNat:=by rw[Int.sub_add_cancel]
  refine OG 7<|aal (s>=0) 15 (λ h4=>?_) λ h4=>?_
  ·refine ru 24 [.dv,.gen,.dv] (λ _=>[i64.wrap ((BitVec.ofInt 64 r ||| BitVec.ofInt 64 (i64.wrap (1*2 ^ min (s).toNat 64))).toNat:Int)≠0,0<=s]) (λ _=>(ac (OP r (by omega)) (ac (by omega) an))) λ _=>aal (i64.wrap ((BitVec.ofInt 64 r ||| BitVec.ofInt 64 (i64.wrap (1*2 ^ min (s).toNat 64))).toNat:Int)>i64.wrap (n.tdiv (i64.wrap ((BitVec.ofInt 64 r ||| BitVec.ofInt 64 (i64.wrap (1*2 ^ min (s).toNat 64))).toNat:Int)))) 26 (λ h5=>?_) λ h5=>?_
   ·refine ae 10 [] λ _=>UC (r,i64.wrap (s-1)) [] [] ?_
    try dsimp only
    have hN:=xH (by omega) hI2;rw[hw (by assumption),No];refine⟨⟨by omega,by omega,?_⟩,by omega⟩;simpa only[LI, *,if_true,if_false] using hN
   ·refine ae 14 [] λ _=>UC (i64.wrap ((BitVec.ofInt 64 r ||| BitVec.ofInt 64 (i64.wrap (1*2 ^ min (s).toNat 64))).toNat:Int),i64.wrap (s-1)) [] [] ?_
    try dsimp only
    have hN:=xH (by omega) hI2;rw[hw (by assumption),No];refine⟨⟨by omega,by omega,?_⟩,by omega⟩;simpa only[LI, *,if_true,if_false] using hN
  ·refine OG 12<|QJ (vI r) [] ⟨?_,rfl⟩;unfold vV
   first|(simp[*];done)|(have e:(s+1).toNat=0:=by omega);(rw[e,vU] at hI2);(simp[*])
def k9:Enc (Int×Int):=⟨2,λ p k=>match k with|0=>vI p.1|_=>vI p.2,(0,0)⟩
noncomputable def Q3:TypeInfo:=match Tryz.prog.info? 239 with | some i=>i | none=>⟨.bool,"",0,0,false,0,0,none,false,#[]⟩
noncomputable def Q4:Value:=match Q3.zero with|some z=>z|none=>.bool false
theorem NV:EncOk k9 Tryz.prog 239 Q3 Q4 where
 info:=by kernel_rfl
 zero:=by kernel_rfl
 size:=by kernel_rfl
 zsize:=by kernel_rfl
 zcell:=λ k hk=>by
  have h:∀k<2,Q4.cells[k]?=some (k9.cell k9.dflt k):=by intro k hk;(iterate 2 (rcases k with _|k;· kernel_rfl));omega
  exact h k hk
 one:=λ x k=>by unfold k9;dsimp only;split <;> rfl
 bytes:=aaH (by kernel_rfl)
def qO:Nat->List Int->List (Int×Int)
 |_,[]=>[]
 |a,k::l=>((a:Int),k)::qO (a+1) l
theorem kl:∀ (a:Nat) (ms:List Int),(qO a ms).length=ms.length
 |_,[]=>rfl
 |a,k::l=>by rw[qO,aaZ,aaZ,kl]
theorem CQ:∀ (a:Nat) (ms:List Int) (i:Nat),i<ms.length->(qO a ms)[i]?=some (((a+i:Nat):Int),ms.getD i 0)
 |_,[],i,h=>absurd h (ot _)
 |a,k::l,0,_=>by rw[qO];rfl
 |a,k::l,i+1,h=>by
  rw[qO,ace,CQ (a+1) l i (by simpa using h),show a+1+i=a+(i+1) by omega];rfl
theorem xI(k:Int):∀ (a:Nat) (ms:List Int),qO a (ms++[k])=qO a ms++[(((a+ms.length:Nat):Int),k)]
 |a,[]=>rfl
 |a,x::l=>by
  show _::qO (a+1) (l++[k])=_;rw[xI k (a+1) l,aaZ,show a+1+l.length=a+(l.length+1) by omega];rfl
theorem xJ:∀ (a:Nat) (ms:List Int) (n:Nat),(qO a ms).take n=qO a (ms.take n)
 |_,[],n=>by cases n <;> rfl
 |_,_::_,0=>rfl
 |a,k::l,n+1=>by
  show _::(qO (a+1) l).take n=_::qO (a+1) (l.take n);rw[xJ]
theorem vW(h:SlX k9 239 (qO a ms) A cap Hl)(hn:ms≠[]):∃b o M full,A=some ⟨b,o*2,none⟩/\Hl=[(b,.rows 2 M (aD k9 full) 239 (0,0))]/\full.length=M/\o+cap<=M/\ms.length<=cap/\(full.drop o).take ms.length=qO a ms/\∀k,k<ms.length->full.getD (o+k) k9.dflt=(((a+k:Nat):Int),ms.getD k 0):=by
 rcases h with ⟨_,_,h,_⟩|⟨b,o,M,full,h1,h2,h3,h4,h5,h6⟩
 ·exfalso;have:=congrArg List.length h;rw[kl] at this;exact hn (aa6 this)
 ·rw[kl] at h5 h6;refine⟨b,o,M,full,h1,h2,h3,h4,h5,h6,λ k hk=>?_⟩;have e:=congrArg (·[k]?) h6;simp only[abn,if_pos hk,abi,CQ a ms k hk] at e;rw[aaG,e];rfl
theorem Hf {n:Nat}(hm:(rb,.lit [vP mb 0,vI (w:Int),vS b (o*2) n cap] 140 (0,0))∈F)(hq:(b,.rows 2 M (aD k9 full) 239 (0,0))∈F)(hn:1<=n)(ho:o+n<=M)(Zn:n<=100000000):af0 123 #[vP rb 0] F (vI (full.getD o k9.dflt).1):=by
 refine rx Tryz.func123 (mc hm (mc hq mn)) [] []<|Sr 16 [.ro 0]<|aal ((n:Int)=0) 8 (λ h1=>?_) λ h1=>?_
 ·(exfalso;omega)
 ·refine ah 15 [.ro 0,.ix 0,.rorow 1 (o+0) 0] [(o*2+0*2)=(o+0)*2+0/\(o+0)<M,0=((0:Nat):Int)/\0<n] λ _=>QJ _ _ ⟨rfl,rfl⟩
theorem xK {n:Nat}(hm:(rb,.lit [vP mb 0,vI (w:Int),vS b (o*2) n cap] 140 (0,0))∈F)(hq:(b,.rows 2 M (aD k9 full) 239 (0,0))∈F)(hn:1<=n)(ho:o+n<=M)(Zn:n<=100000000):af0 94 #[vP rb 0] F (vI (full.getD (o+(n-1)) k9.dflt).1):=by
 refine rx Tryz.func94 (mc hm (mc hq mn)) [] []<|Sr 16 [.ro 0]<|aal ((n:Int)=0) 8 (λ h1=>?_) λ h1=>?_
 ·(exfalso;omega)
 ·refine OG 4<|aak [] []<|aH [] [0,4,1,5,2,6,3,7,8,9,10,11,12,13] [.ro 0,.ro 0,.nw,.ix (n-1),.rorow 1 (o+(n-1)) 0] [(o*2+(n-1)*2)=(o+(n-1))*2+0/\(o+(n-1))<M,(n:Int)-1=(((n-1):Nat):Int)/\(n-1)<n,aX ((n:Int)-1)]<|aad<|ae 1 [] λ _=>QJ _ _ ⟨rfl,rfl⟩
theorem Hg(hm:(rb,.lit [vP mb 0,vI (w:Int),vS b (o*2) 0 cap] 140 (0,0))∈F):af0 94 #[vP rb 0] F (vI (-1)):=by
 refine QH Tryz.func94 hm<|ae 22 [.ro 0] λ _=>QJ _ _ ⟨rfl,rfl⟩
theorem Hh(hm:(rb,.lit [vP mb 0,vI (w:Int),.slice none 0 0] 140 (0,0))∈F):af0 94 #[vP rb 0] F (vI (-1)):=by
 refine QH Tryz.func94 hm<|ae 22 [.ro 0] λ _=>QJ _ _ ⟨rfl,rfl⟩
theorem LJ(x1 x2:Int)(hm:(tq,.lit [vI t] 3 (0,0))∈F):af0 125 #[.agg #[vI x1,vI x2],vP tq 0] F (.bool (decide (x1=t))):=by
 refine QH Tryz.func125 hm<|ae 15 [.o 0,.ro 0] λ n1=>QJ _ _ ⟨rfl,rfl⟩
theorem LK {n:Nat} (cap:Nat) (k0:Nat)(hm:(tq,.lit [vI t] 3 (0,0))∈F)(hq:(b,.rows 2 M (aD k9 full) 239 (0,0))∈F)(ho:o+n<=M)(Zn:n<=100000000)(hk:k0<n)(ht:(full.getD (o+k0) k9.dflt).1=t)(iN:∀k,k<k0->¬ (full.getD (o+k) k9.dflt).1=t):af0 124 #[vS b (o*2) n cap,.func (.func 125) #[] #[vP tq 0]] F (vI (k0:Int)):=by
 refine rx Tryz.func124 (mc hm (mc hq mn)) [] []<|OG 14<|aan (σ:=Nat) (λ i_=>⟨[(0,vS b (o*2) n cap),(1,.func (.func 125) #[] #[vP tq 0]),(7,vI (n:Int)),(8,vI (i_:Int))],[],[],i_<=k0,k0-i_⟩) 0 [] [] (aaJ _) ?_;rintro i_ XB Ue;refine OG 6<|aal ((i_:Int)<(n:Int)) 9 (λ h3=>?_) λ h3=>?_
 ·refine ah 18 [.ix i_,.rorow 1 (o+i_) 0,.rorow 1 (o+i_) 1] [((o*2+i_*2)+1)=(o+i_)*2+1/\(o+i_)<M,(o*2+i_*2)=(o+i_)*2+0/\(o+i_)<M,(i_:Int)=((i_:Nat):Int)/\i_<n] λ _=>aah (LJ ((full.getD (o+i_) k9.dflt).1) ((full.getD (o+i_) k9.dflt).2) (aC hm))<|OG 2<|il ((decide ((full.getD (o+i_) k9.dflt).1=t))) 16 (λ h4=>?_) λ h4=>?_
  ·refine OG 7<|QJ (vI (i_:Int)) [] ?_;have e_:i_=k0:=by
    rcases aa9 i_ k0 with h_|h_
    ·exact absurd (by simpa using h4) (iN i_ h_)
    ·omega
   exact⟨by rw[e_],rfl⟩
  ·refine ah 8 [.nw] [aX ((i_:Int)+1)] λ _=>Ue (i_+1) [] [] ?_
   try dsimp only
   have e_:i_≠k0:=by rintro rfl;exact absurd ht (by simpa using h4)
   exact⟨by omega,by omega⟩
 ·(exfalso;omega)
def CS(a:Nat)(ms:List Int):Int:=if ms=[] then -1 else ((a+ms.length:Nat):Int)-1
theorem CT{n:Nat}(hs:SlX k9 239 (qO a ms) A cap Hl)(hF:∀x∈Hl,x∈F)(hn:n=ms.length)(Zn:n<=100000000)(hm:(rb,.lit [vP mb 0,vI (w:Int),.slice A n cap] 140 (0,0))∈F):af0 94 #[vP rb 0] F (vI (CS a ms)):=by
 subst hn;unfold CS;split
 ·next e=>
  subst e;rcases hs with ⟨rfl,rfl,_,_⟩|⟨b,o,M,full,rfl,rfl,h3,h4,h5,h6⟩
  ·exact Hh hm
  ·exact Hg o hm
 ·next e=>
  have hp:1<=ms.length:=by
   cases ms with
   |nil=>exact absurd rfl e
   |cons _ _=>simp
  obtain⟨b,o,M,full,rfl,rfl,h3,h4,h5,h6,h7⟩:=vW hs e;have h:=xK o hm (hF _ (eb.2 rfl)) hp (by omega) Zn;rw[h7 (ms.length-1) (by omega)] at h;rw[show ((a+ms.length:Nat):Int)-1=((a+(ms.length-1):Nat):Int) by omega];exact h
end Go.Proofs.YtjokannbjmndfaaGreatDoor
