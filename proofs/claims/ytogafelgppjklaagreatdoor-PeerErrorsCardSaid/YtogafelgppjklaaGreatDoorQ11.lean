import Derived.Test.YtogafelgppjklaaGreatDoorQ10
import Derived.Test.YtogafelgppjklaaGreatDoorRows
import Derived.Test.YtogafelgppjklaaGreatDoorChecked
import Derived.ProofKit
import Derived.OpenShut
import Derived.Carry
import Derived.Lay
import Derived.LaidHandle
import Derived.ChangeSlices
import Derived.Lib.LaidTab
import Derived.MakeChecks
import Derived.Deep.Slices
import Derived.Lib.SmallJoins
import Derived.Test.YtogafelgppjklaaGreatDoorTie
import Derived.Test.YtogafelgppjklaaGreatDoorCards
import Derived.SevenTiedAt
import Derived.JoinedOf
set_option maxHeartbeats 4000000
set_option maxRecDepth 100000
set_option linter.all false
namespace Go.Proofs.YtogafelgppjklaaGreatDoor
open Go.ChangeShapes Go.WideShapes Go.ChangeAt Go.RowKit
section
variable {H:Type} {P:Program} {W w:World} {apart fresh handsOn:Bool} {args:Array Value} {b0 g m n:Nat} {e t:TypeId} {ps:List MemPlace} {s:ChangeSpec} {zs:List (List Int)}
theorem LI:ownKnob Tryz.prog.godebug=none:=by kernel_rfl
theorem LJ:laidOutB Tryz.prog=true:=by kernel_rfl
theorem mY{n:Int}(h:(Lit.int .i64 n).wf=true):-9223372036854775808<=n/\n<=9223372036854775807:=bounds_i64 h
section
variable {H:Type} {enc:TypeId×Value->H} {P:Program} {W W':World}
theorem nJ(hl:laidOutB P=true)(hb:Below W.heap.size W W'):∀ {ts:List TypeId} {vs:List Value} {ds:List (DataW H)} {ps:List MemPlace},(∀t∈ts,P.readableRec t=true/\t<P.types.size)->
  DataW.TrodAll enc P W 0 (λ _=>true) true ts vs ds ps->(∀x∈ps,x.block<W.heap.size)->DataW.TrodAll enc P W' 0 (λ b=>decide (b<W.heap.size)) true ts vs ds ps
 | [],_,_,_,_,h,_=>by
  obtain⟨rfl,rfl,rfl⟩:=trodAll_nil h;exact trodAll_mk0
 |t::ts,_,_,_,ht,h,g_=>by
  obtain⟨v,vs1,d,ds1,a,b,rfl,rfl,rfl,h1,h2⟩:=trodAll_cons h;have h3:=ht t (by simp);exact trodAll_cons_mk (Below.trod hl h3.1 h3.2 h1 hb (λ x hx=>g_ x (by simp[hx]))) (nJ hl hb (λ t h=>ht t (aaE _ h)) h2 (λ x hx=>g_ x (by simp[hx])))
theorem LK{f:Func}{v:Value}{ds:List (DataW H)}{before:List MemPlace}(hl:laidOutB P=true)
  (YD:∀t∈f.params.toList,P.readableRec t=true/\t<P.types.size)
  (hW:DataW.Whole enc P f.params.toList s.vars apart W args.toList ds [] before) (hs:s.vars=[])
  (hA:DataW.TrodAll enc P W 0 (λ _=>true) true f.params.toList args.toList ds before)
  (WU:∀ (b:Nat) (sp:Nat->Bool) (hd:Bool),DataW.TrodAll enc P W' b sp hd f.resultTypes.toList (v.resultList f.resultTypes.size) (s.fn H (ds++[])).results [])
  (Yr:(s.fn H (ds++[])).args=ds) (ae1:∀sp,DataW.TrodVars enc P W' sp s.vars (s.fn H (ds++[])).vars []) (hb:Below W.heap.size W W') :
  s.post enc P f apart fresh handsOn false W args v W':=by
 refine⟨ds,[],before,[],before,[],hW,WU _ _ _,?_,ae1 _,hb.frame _,λ h=>by cases h⟩;rw[Yr];exact nJ hl hb YD hA (λ x hx=>hW.lt x hx)
end
def tE:Obj->Blk
 | .cells cs ty fz=>.rows 1 cs.size (λ i _=>cs.getD i default) ty fz
 |o=>.obj o
theorem kH(o:Obj):(tE o).den=o:=by
 cases o with
 |cells cs ty fz=>
  show Obj.cells ⟨bq 1 (λ i _=>cs.getD i default) cs.size⟩ ty fz=_;congr 1;have e:bq 1 (λ i _=>cs.getD i default) cs.size=cs.toList:=by
   refine iW (by simp) ?_;intro i k hi hk;obtain rfl:k=0:=by omega
   simp[Array.getD,hi]
  rw[e]
 |_=>rfl
def lj(w:World):HL:=List.ofFn (λ k:Fin w.heap.size=>(k.1,tE w.heap[k.1]))
theorem oy{k:Nat}{o:Obj}(h:w.heap[k]?=some o):(k,tE o)∈lj w:=by
 obtain⟨hk,he⟩:=eb.1 h;exact ad9.2 ⟨⟨k,hk⟩,by simp[he]⟩
theorem CB(w:World):Rel (lj w) w:=by
 refine⟨λ x hx=>?_,?_⟩
 ·obtain⟨k,rfl⟩:=ad9.1 hx;simp[kH]
 ·unfold lj;rw[List.map_ofFn];have e:List.ofFn ((λ x:Nat×Blk=>x.1)∘λ k:Fin w.heap.size=>(k.1,tE w.heap[k.1]))=List.range w.heap.size:=by
   apply List.ext_getElem
   ·simp
   ·intro i h1 h2;simp
  rw[e];exact List.nodup_range
theorem GJ{f:FuncId}{v:Value}(w:World)(h:Sp P f args [] (lj w) (λ u H'=>u=v/\H'=[])):Calls P f args w λ e w'=>e=.returned v/\Below w.heap.size w w':=by
 refine(h w (CB w)).mono ?_;rintro e w' ⟨u,H',rfl,⟨rfl,rfl⟩,By,hB⟩;refine⟨rfl,hB.os,hB.tape,hB.output,hB.size,λ k hk=>?_⟩;have:=By.holds (k,tE w.heap[k]) (by rw[abz];exact oy (by simp[hk]));rw[this];simp[kH,hk]
theorem LL{enc:TypeId×Value->H}{r:Reach}{v:Value}{d:DataW H}(O_:Value.okWide Tryz.prog w r b0 22 v)(hd:DataW.Trod enc Tryz.prog w 0 (λ _=>true) true 22 v d ps) :
  ∃ (A:Option Addr) (n cap:Nat) (xs:List Int),v=.slice A n cap/\n<=9223372036854775807/\ArgL (lj w) A n xs/\n<=cap:=by
 obtain⟨a0,len,cap,rfl⟩:=okWide_slice Tryz.underlying22 O_;obtain⟨fuel,hf⟩:=hd;rcases open_ints Tryz.underlying22 Tryz.underlying3 (by kernel_rfl) hf with ⟨Xc,hx⟩|⟨a,ahO,bY,zs,Xc,_,hl,hm,hz,hx,L_,hwz⟩
 ·simp[Value.cells] at Xc;obtain⟨rfl,rfl,rfl⟩:=Xc;exact⟨none,0,0,[],rfl,by omega,.zero _,aaI _⟩
 ·simp[Value.cells] at Xc;obtain⟨rfl,rfl,rfl⟩:=Xc;unfold maxLen at hm;simp at hz;rcases abI len with h0|Zy
  ·subst h0;exact⟨some a,0,_,[],rfl,by omega,.zero _,aaJ _⟩
  ·have hlz:len<=zs.length:=by omega
   obtain⟨b,off,spot⟩:=a;have c0:=L_ 0 (by omega);have XD:spot=none:=by
    cases spot with
    |none=>rfl
    |some s=>simp[Addr.add,World.cell?] at c0;split at c0 <;> simp at c0
   subst XD;have hc:∀i,i<zs.length->w.cell? ⟨b,off+i,none⟩=some (.int .i64 (zs.getD i 0)):=λ i hi=>by
    have:=L_ i hi;unfold Addr.add at this
    by_cases h:i=0
    ·subst h;simpa using this
    ·rw[if_neg h] at this;exact this
   have h0:=hc 0 (by omega);unfold World.cell? at h0;split at h0
   case h_2=>cases h0
   rename_i cs ty fz hb;refine⟨some ⟨b,off,none⟩,len,cap,zs.take len,rfl,by omega,?_,hl⟩;have hlen:(zs.take len).length=len:=by rw[aaL];omega
   have Xc:∀k,k<len->cs[off+k]?=some (vI ((zs.take len).getD k 0)):=λ k hk=>by
    have h1:=hc k (by omega);unfold World.cell? at h1;rw[show w.heap[(⟨b,off+k,none⟩:Addr).block]?=some (.cells cs ty fz) from hb] at h1;have h2:cs[off+k]?=some (.int .i64 (zs.getD k 0)):=by simpa using h1
    rw[h2];simp[aaG,abe,hk]
   have aiU:=oy hb;have hle:off+len<=cs.size:=by
    have h1:=Xc (len-1) (by omega);have h2:=(eb.1 h1).1;omega
   have:=ArgL.cells (F:=lj w) b off cs.size (λ i _=>cs.getD i default) ty fz (zs.take len) aiU (by rw[hlen];exact hle) (λ k hk=>by
    rw[hlen] at hk;have h1:=Xc k hk;simp only[UV];rw[h1];rfl) (λ k hk=>by
    rw[hlen] at hk;have:(zs.take len).getD k 0∈zs:=by
     rw[aaG,aaP (by omega)];exact List.mem_of_mem_take (acY _)
    exact mY (hwz _ this))
   rw[hlen] at this;exact this
theorem t7{enc:TypeId×Value->H}{base:Nat}{sp:Nat->Bool}{held:Bool}{fuel:Nat}{k:IntKind}{fs:Array Field}{cs:List Value}{p:List MemPlace}
  (ht:P.underlying t=some (.array n e)) (he:P.underlying e=some (.struct fs)) (hce:P.cellsOf e=m) (hct:P.cellsOf t=n*m) (hm:0<m) (Vc:fs.toList.length=m)
  (hf:∀ (j:Nat) f,fs.toList[j]?=some f->P.underlying f.type=some (.int k)/\P.cellsOf f.type=1/\f.offset=j) (hz:∀z∈zs,z.length=m)
  (h:DataW.trod enc P w base sp held fuel t cs=some (.agg (zs.map λ z=>.agg (z.map λ x=>.lit (.int k x))),p)) :
  cs.length=n*m/\zs.length=n/\∀i j,i<n->j<m->cs[i*m+j]?=some (.int k ((zs.getD i []).getD j 0)):=by
 cases fuel with
 |zero=>simp[DataW.trod] at h
 |succ fuel=>
  simp only[DataW.trod,ht,hce,hct] at h;split at h
  case isFalse=>cases h
  rename_i hl;obtain⟨xs,hmm,hx⟩:=ab1.1 h;have hxs:xs.map (·.1)=zs.map λ z=>(DataW.agg (z.map λ x=>.lit (.int k x)):DataW H):=by
   have:=congrArg Prod.fst hx;simpa using this
  have hxl:xs.length=n:=by simpa using Lib.mapM_length hmm
  have XV:zs.length=n:=by
   have:=congrArg List.length hxs;simp at this;omega
  refine⟨hl,XV,λ i j hi hj=>?_⟩;obtain⟨b,hb,hfb⟩:=Lib.mapM_at hmm i i (by simp[hi]);have hbz:b.1=.agg ((zs.getD i []).map λ x=>.lit (.int k x)):=by
   have h2:(xs.map (·.1))[i]?=some b.1:=by simp[hb]
   rw[hxs,abf,aaP (by omega)] at h2;simp only[abK,de] at h2;rw[<- h2,aaG,aaP (by omega)];rfl
  have hzi:(zs.getD i []).length=m:=by
   rw[aaG,aaP (by omega)];exact hz _ (acY _)
  cases fuel with
  |zero=>simp[DataW.trod] at hfb
  |succ fuel=>
   have abi:=hfb;simp only[DataW.trod,he,hce] at abi;split at abi
   case isFalse=>cases abi
   rename_i I_;obtain⟨ys,hym,hy⟩:=ab1.1 abi;have hys:ys.map (·.1)=(zs.getD i []).map λ x=>(DataW.lit (.int k x):DataW H):=by
    have:=congrArg Prod.fst hy;rw[hbz] at this;simpa using this
   have hfj:fs.toList[j]?=some (fs.toList[j]'(by omega)):=aaP (by omega);obtain⟨c,hc,hfc⟩:=Lib.mapM_at hym j _ hfj;obtain⟨f1,f2,f3⟩:=hf j _ hfj;rw[f2,f3] at hfc;obtain⟨x,hcx,hcd,_⟩:=DataW.trod_int f1 hfc;have h1:(((cs.drop (i*m)).take m).drop j).take 1=[.int k x]:=hcx;have h2:cs[i*m+j]?=some (.int k x):=by
    have:=congrArg (·[0]?) h1;simpa [abe,abd,hj] using this
   have h3:(ys.map (·.1))[j]?=some (DataW.lit (.int k x):DataW H):=by simp[hc,hcd]
   rw[hys,abf,aaP (by omega)] at h3;simp only[abK,de,DataW.lit.injEq,Lit.int.injEq,true_and] at h3;have h4:∀l:List Int,(hl:j<l.length)->l[j]=l.getD j 0:=λ l hl=>by simp[aaG,hl]
   rw[h2,<- h3,h4 _ (by omega)]
theorem ll{enc:TypeId×Value->H}{a:Assume}{C:Checked}{os:Os}{f:FuncId}{fn:Func}{conds:List PathCond}{again:Bool}{X:World->Array Value->Prop}
  (hX:∀ (w w':World) (args:Array Value),w.heap=w'.heap->X w args->X w' args)
  (own:ownKnob C.prog.godebug=none) (started:os.Started) (acg:C.prog.inits.idxOf? f=none) (hfn:C.prog.funcs[f]?=some fn)
  (witness:∃ (w:World) (tape:Tape) (i:Input),w.os=os/\(w.forCall tape i).Shaped C.prog/\i.vars=[]/\Input.okWide C.prog (w.forCall tape i) .any w.heap.size f i/\
   ((s.pre enc C.prog fn conds apart (w.forCall tape i).memory i.args/\X (w.forCall tape i).memory i.args)/\sizedMet enc C.prog fn (OpenSpec.ofChange s) apart (w.forCall tape i).memory i.args)/\a.holds C.prog (lone (Frame.enter C.prog f i.args .normal) [] (w.forCall tape i)))
  (Z1:∀ (W:World) (base:Nat) (args:Array Value) (ds gs:List (DataW H)) (before:List MemPlace),W.ShapedOpen C.prog->
   (∀ (j:Nat) t v,fn.params[j]?=some t->args[j]?=some v->Value.okWide C.prog W .any base t v)->
   DataW.Whole enc C.prog fn.params.toList s.vars apart W args.toList ds gs before->X W args->
   Calls C.prog f args W λ e W'=>∃v,e=.returned v/\s.post enc C.prog fn apart fresh handsOn again W args v W') :
  ReturnsInHanded a C os f .any (λ w args=>(s.pre enc C.prog fn conds apart w args/\X w args)/\sizedMet enc C.prog fn (OpenSpec.ofChange s) apart w args) (s.post enc C.prog fn apart fresh handsOn again):=by
 refine returnsInHanded_of_calls own started acg witness ?_;intro w tape i _ Y0 _ dO U1 aje;obtain⟨_,_,_,fn',ajk,_,_,_,_,O_⟩:=dO;have e:fn'=fn:=abL (ajk.symm.trans hfn);subst e;obtain⟨⟨⟨ds,gs,before,hw,hc⟩,hx⟩,hz⟩:=U1;have hw':=DataW.Whole.of_heap (w':=w.forCall tape i) (by rfl) hw;refine(Z1 (w.forCall tape i) w.heap.size i.args ds gs before Y0 O_ hw' (hX _ _ _ (by rfl) hx)).mono λ e W' ⟨v,he,hp⟩=>?_;subst he;exact ChangeSpec.post_blind hp
def ceZ:List (List Int):=[[0,0],[0,1],[0,1],[1,0],[1,1],[2,0],[0,1],[0,1],[0,1],[2,1],[2,1],[2,1],[2,1],[1,1],[2,1],[2,1],[2,1],[1,1],[0,0],[1,0],[2,0],[0,0]]
def D9:Nat->Nat->Value:=λ i j=>.int .i64 ((ceZ.getD i []).getD j 0)
theorem LM:(Blk.rows 2 22 D9 254 (0,0)).den=(Blk.lit wU 254 (0,0)).den:=by kernel_rfl
def efZ:List (List Int):=oT.map λ z=>[z.1,z.2.1,z.2.2]
theorem Ap(t:TypeId)(hg:g<Tryz.prog.globals.size)(h0:(((begin Tryz.prog (λ _ _=>0) default).world.heap[g]?).bind Obj.row?).map (·.2)=some t)(hs:W.ShapedOpen Tryz.prog):∃cs,W.heap[g]?=some (.cells cs t (0,0)):=by
 cases h:((begin Tryz.prog (λ _ _=>0) default).world.heap[g]?).bind Obj.row? with
 |none=>rw[h] at h0;cases h0
 |some x=>
  obtain⟨z,t'⟩:=x;rw[h] at h0;simp only[abK,de] at h0;subst h0;obtain⟨cs,h1,_⟩:=hs.1 g z t' hg h;exact⟨cs,h1⟩
def LN(P:Program)(e:TypeId)(m:Nat):Bool :=
 match P.underlying e with
 |some (.struct fs)=>decide (fs.toList.length=m) && (List.range m).all λ j=>
  match fs.toList[j]? with
  |some f=>(match P.underlying f.type with|some (.int .i64)=>true|_=>false) && decide (P.cellsOf f.type=1) && decide (f.offset=j)
  |none=>false
 |_=>false
theorem vM(h:LN P e m=true):∃fs:Array Field,P.underlying e=some (.struct fs)/\fs.toList.length=m/\
  ∀ (j:Nat) f,fs.toList[j]?=some f->P.underlying f.type=some (.int .i64)/\P.cellsOf f.type=1/\f.offset=j:=by
 unfold LN at h;split at h
 case h_2=>cases h
 rename_i fs hfs;rw[aaW] at h;have hm:fs.toList.length=m:=aa9 h.1;refine⟨fs,hfs,hm,λ j f hj=>?_⟩;have hjm:j<m:=by rw[<- hm];exact(bt.1 hj).1
 have h2:=ady.1 h.2 j (ad6.2 hjm);rw[hj] at h2;simp only[aaW,decide_eq_true_eq] at h2;refine⟨?_,h2.1.2,h2.2⟩;have h3:=h2.1.1;split at h3
 ·assumption
 ·cases h3
theorem Ea{name:String}{rest:List (String×DataW Unit)}{row:Nat->Nat->Value}{cs0:Array Value}
  (hb:W.heap[g]?=some (.cells cs0 t (0,0)))
  (hg:P.globalNamed name=some g) (hty:(P.globals[g]?).map (·.type)=some t) (ht:P.underlying t=some (.array n e)) (hE:LN P e m=true) (hce:P.cellsOf e=m) (hct:P.cellsOf t=n*m) (hm:0<m) (hz:∀z∈zs,z.length=m)
  (WT:∀i j,i<n->j<m->row i j=.int .i64 ((zs.getD i []).getD j 0))
  (h:DataW.LaidVars P W ((name,.agg (zs.map λ z=>.agg (z.map λ x=>.lit (.int .i64 x))))::rest) ps):W.heap[g]?=some (Blk.rows m n row t (0,0)).den/\∃q,DataW.LaidVars P W rest q:=by
 obtain⟨fs,he,Vc,hf⟩:=vM hE;obtain⟨g',t',cs,fuel,p,q,hg',ht',ah9,hd,hr,_⟩:=h;obtain rfl:=abL (hg.symm.trans hg');obtain rfl:=abL (hty.symm.trans ht');have hv:W.var? P name=some cs0:=by
  unfold World.var?;rw[hg];simp only[Option.bind_some,hb]
 obtain rfl:=abL (hv.symm.trans ah9);obtain⟨h1,h2,h3⟩:=t7 ht he hce hct hm Vc hf hz hd;refine⟨?_,q,hr⟩;rw[hb];show some (Obj.cells cs0 t (0,0))=some (Obj.cells ⟨bq m row n⟩ t (0,0));congr 2;obtain⟨l⟩:=cs0;congr 1
 symm
 exact iW (w:=m) h1 λ i j hi hj=>by rw[WT i j hi hj];exact h3 i j hi hj
theorem NZ (hs:W.ShapedOpen Tryz.prog) (hL:laidMetH Tryz.prog [("arenanet/compile.effects",Rows.laid_arenanet_compile_effects),("arenanet/vm.effects",Rows.laid_arenanet_vm_effects)] W):W.heap[0]?=some (Blk.lit wU 254 (0,0)).den /\ W.heap[1]?=some (Blk.rows 3 22 nQ 361 (0,0)).den:=by
 rw[MakeChecks.laidMetH_plain _ _ _ (by kernel_rfl)] at hL;obtain⟨ps,hv,_,_⟩:=hL;obtain⟨cs0,hb0⟩:=Ap 254 (aa9 (by kernel_rfl)) (by kernel_rfl) hs;obtain⟨cs1,Y2⟩:=Ap 361 (aa9 (by kernel_rfl)) (by kernel_rfl) hs;have hv0:DataW.LaidVars Tryz.prog W (("arenanet/compile.effects",.agg (ceZ.map λ z=>.agg (z.map λ x=>.lit (.int .i64 x)))) :: [("arenanet/vm.effects",.agg (efZ.map λ z=>.agg (z.map λ x=>.lit (.int .i64 x))))]) ps:=hv;obtain⟨h0,q,hq⟩:=Ea (n:=22) (m:=2) (e:=253) (row:=D9) hb0 (by kernel_rfl) (by kernel_rfl) (by kernel_rfl) (by kernel_rfl) (by kernel_rfl) (by kernel_rfl) (by decide) (by decide) (λ i j hi hj=>rfl) hv0;obtain⟨h1,_⟩:=Ea (n:=22) (m:=3) (e:=360) (row:=nQ) Y2 (by kernel_rfl) (by kernel_rfl) (by kernel_rfl) (by kernel_rfl) (by kernel_rfl) (by kernel_rfl) (by decide) (by decide) (λ i j hi hj=>by
  have key:∀i:Fin 22,∀j:Fin 3,(if j.1=0 then (oT.getD i.1 (0,0,0)).1 else if j.1=1 then (oT.getD i.1 (0,0,0)).2.1 else (oT.getD i.1 (0,0,0)).2.2)=(efZ.getD i.1 []).getD j.1 0:=by decide
  have:=key ⟨i,hi⟩ ⟨j,hj⟩;rcases j with _|_|_|j
  ·exact congrArg (Value.int .i64) this
  ·exact congrArg (Value.int .i64) this
  ·exact congrArg (Value.int .i64) this
  ·omega) hq
 exact⟨h0.trans (congrArg some LM),h1⟩
def tF(W:World):HL:=List.ofFn (λ k:Fin W.heap.size=>(k.1,if k.1=0 then Blk.lit wU 254 (0,0) else if k.1=1 then Blk.rows 3 22 nQ 361 (0,0) else tE W.heap[k.1]))
theorem CC(h0:W.heap[0]?=some (Blk.lit wU 254 (0,0)).den)(h1:W.heap[1]?=some (Blk.rows 3 22 nQ 361 (0,0)).den):dU (lj W)=dU (tF W):=by
 unfold dU lj tF;rw[List.map_ofFn,List.map_ofFn];congr 1;funext k;show (k.1,(tE W.heap[k.1]).den)=(k.1,Blk.den (if k.1=0 then _ else if k.1=1 then _ else _));rw[kH];congr 1
 by_cases e0:k.1=0
 ·rw[if_pos e0];have h2:W.heap[k.1]?=some (Blk.lit wU 254 (0,0)).den:=by rw[show W.heap[k.1]?=W.heap[0]? by rw[e0]];exact h0
  rw[abn k.2] at h2;exact abL h2
 ·rw[if_neg e0]
  by_cases e1:k.1=1
  ·rw[if_pos e1];have h2:W.heap[k.1]?=some (Blk.rows 3 22 nQ 361 (0,0)).den:=by rw[show W.heap[k.1]?=W.heap[1]? by rw[e1]];exact h1
   rw[abn k.2] at h2;exact abL h2
  ·rw[if_neg e1,kH]
theorem LO(h0:W.heap[0]?=some (Blk.lit wU 254 (0,0)).den):qD (tF W) :=
 ad9.2 ⟨⟨0,(eb.1 h0).1⟩,rfl⟩
theorem LP(h1:W.heap[1]?=some (Blk.rows 3 22 nQ 361 (0,0)).den):cU (tF W) :=
 ad9.2 ⟨⟨1,(eb.1 h1).1⟩,rfl⟩
instance instInpInh:Inhabited Inp:=⟨dI⟩
theorem RowB.den{F F':HL}{A:Option Addr}{f:Nat->Inp}(h:RowB F A n f)(e:dU F=dU F'):RowB F' A n f:=h.imp id λ ⟨b,a,e1,hI⟩=>⟨b,a,e1,λ w hw=>hI w λ x hx=>by
 have h1:(x.1,x.2.den)∈dU F':=e▸acO (f:=λ x:Nat×Blk=>(x.1,x.2.den)) hx;obtain⟨y,hy,ey⟩:=abG.1 h1;have h2:=hw y hy;rw[df] at ey;rw[<- ey.1,<- ey.2];exact h2⟩
theorem LQ{enc:TypeId×Value->H}{r:Reach}{v:Value}{d:DataW H}(O_:Value.okWide Tryz.prog w r b0 25 v)(hd:DataW.Trod enc Tryz.prog w 0 (λ _=>true) true 25 v d ps) :
  ∃ (A:Option Addr) (n cap:Nat) (xs:List Inp),v=.slice A n cap/\RowB (lj w) A n (λ k=>xs.getD k dI)/\xs.length=n/\n<=cap:=by
 obtain⟨a0,len,cap,rfl⟩:=okWide_slice Tryz.underlying25 O_;obtain⟨fuel,hf⟩:=hd;rcases Go.Deep.open_slice Tryz.underlying25 hf with ⟨Xc,_⟩|⟨a,ahO,bY,m,n,D,Pl,Xc,hb,hl,hm,hmm,_,hx⟩
 ·simp[Value.cells] at Xc;obtain⟨rfl,rfl,rfl⟩:=Xc;exact⟨none,0,0,[],rfl,.inl rfl,rfl,aaI _⟩
 ·simp[Value.cells] at Xc;obtain⟨rfl,rfl,rfl⟩:=Xc;have hlm:len<=m:=by rw[hmm];split <;> omega
  obtain⟨fs,he,Vc,hfd⟩:=vM (P:=Tryz.prog) (e:=24) (m:=3) (by kernel_rfl);have each:∀i,i<len->∃x:Inp,∀j u,[vI x.dx,vI x.dy,vI x.act][j]?=some u->w.cell? ((a.add (i*3)).add j)=some u:=by
   intro i hi;obtain⟨cs',h1,h2⟩:=hx i (by omega);rw[show Tryz.prog.cellsOf 24=3 by kernel_rfl] at h1;obtain⟨_,hlen,L_⟩:=World.cells?_some h1;obtain⟨xs,k,_,_,_,hxl,hfx⟩:=DataW.trod_struct he h2;have RW:fs.size=3:=by rw[<- adX];exact Vc
   have one:∀j,j<3->∃z:Int,cs'[j]?=some (vI z):=by
    intro j hj;have hfj:fs.toList[j]?=some (fs.toList[j]'(by omega)):=aaP (by omega);obtain⟨f1,f2,f3⟩:=hfd j _ hfj;have h4:=hfx j _ (by rw[<- Array.getElem?_toList];exact hfj);rw[f2,f3,aaP (show j<xs.length by omega)] at h4;obtain⟨z,hz,_,_⟩:=DataW.trod_int f1 h4;refine⟨z,?_⟩;have h5:=congrArg (·[0]?) hz;simpa [abe,abd] using h5
   obtain⟨z0,e0⟩:=one 0 (by omega);obtain⟨z1,e1⟩:=one 1 (by omega);obtain⟨z2,e2⟩:=one 2 (by omega);refine⟨⟨z0,z1,z2⟩,λ j u hu=>?_⟩;rcases j with _|_|_|j
   ·rw[L_ 0 (by omega),e0];exact hu
   ·rw[L_ 1 (by omega),e1];exact hu
   ·rw[L_ 2 (by omega),e2];exact hu
   ·simp at hu
  obtain⟨g,hg⟩:=Go.Deep.choose_lt each;refine⟨some a,len,cap,(List.range len).map g,rfl,?_,by simp,hl⟩;rcases abI len with h0|Zy
  ·exact .inl h0
  ·right;obtain⟨b,off,spot⟩:=a;have c0:=hg 0 Zy 0 _ rfl;have XD:spot=none:=by
    cases spot with
    |none=>rfl
    |some s=>simp[Addr.add,World.cell?] at c0;split at c0 <;> simp at c0
   subst XD;refine⟨b,off,rfl,λ w' hw' k hk j u hu=>?_⟩;have hgk:((List.range len).map g).getD k dI=g k:=by simp[aaG,hk]
   simp only[hgk] at hu;have h1:=hg k hk j u hu;rw[Go.WideShapes.add_plain,Go.WideShapes.add_plain] at h1;have hbb:∃o,w.heap[b]?=some o:=by
    unfold World.cell? at h1;split at h1
    ·rename_i hb;exact⟨_,hb⟩
    ·cases h1
   obtain⟨o,ho⟩:=hbb;have h2:=hw' _ (oy ho);dsimp only at h2;rw[kH] at h2;rw[<- h1];unfold World.cell?;rw[show w'.heap[(⟨b,off+k*3+j,none⟩:Addr).block]?=some o from h2,show w.heap[(⟨b,off+k*3+j,none⟩:Addr).block]?=some o from ho]
noncomputable def GK(os:Os):World:=World.laidAll Tryz.prog os Rows.peerErrorsRow.laid
theorem xo(os:Os)(started:os.Started)(H:Type)(enc:TypeId×Value->H) :
  ReturnsInHanded {} Tryz.checked os 3 .any (λ w args=>(Rows.peerErrorsSpec.pre enc Tryz.prog Tryz.f3 [] false w args/\laidMetH Tryz.prog Rows.peerErrorsRow.laid w)/\sizedMet enc Tryz.prog Tryz.f3 (OpenSpec.ofChange Rows.peerErrorsSpec) false w args)
   (Rows.peerErrorsSpec.post enc Tryz.prog Tryz.f3 false true false false):=by
 refine ll (C:=Tryz.checked) (X:=λ w _=>laidMetH Tryz.prog Rows.peerErrorsRow.laid w) (λ _ _ _ hh h=>h.of_heap hh) LI started (by kernel_rfl) Tryz.func3
  (ChangeSpec.witness_at (enc:=enc) (C:=Tryz.checked) (os:=os) (X:=λ w _=>laidMetH Tryz.prog Rows.peerErrorsRow.laid w) false (GK os) #[.slice none 0 0,.int .i64 0,.int .i64 0,.int .i64 0,.agg #[.int .i64 0,.int .i64 0,.int .i64 0],.slice none 0 0] 8 (World.laidAll_os _ _ _) (by kernel_rfl) (by kernel_rfl) (by kernel_rfl) (by kernel_rfl) (by kernel_rfl) (laidMetH_of_parts (laidMet_laidAll _ (by kernel_rfl) (by kernel_rfl)) (by kernel_rfl))) ?_
 intro W base args ds gs before Y0 abQ hW hL;have O_:∀ (j:Nat) t v,Tryz.f3.params[j]?=some t->args[j]?=some v->Value.okWide Tryz.prog W .any base t v:=abQ;have hW':=hW;obtain⟨p,q,hA0,hV,rfl,hfz,W_⟩:=hW;have hA:DataW.TrodAll enc Tryz.prog W 0 (λ _=>true) true Tryz.f3.params.toList args.toList ds p:=hA0;have hAA:=hA;rw[Tryz.params3] at hA O_;obtain⟨v0,vs0,d0,ds0,p0,q0,Yr,rfl,rfl,h0r,r0⟩:=trodAll_cons hA;obtain⟨v1,vs1,d1,ds1,p1,q1,rfl,rfl,rfl,h1r,r1⟩:=trodAll_cons r0;obtain⟨v2,Yv,d2,ds2,p2,q2,rfl,rfl,rfl,h2r,r2⟩:=trodAll_cons r1;obtain⟨v3,vs3,d3,ds3,p3,q3,rfl,rfl,rfl,h3r,r3⟩:=trodAll_cons r2;obtain⟨v4,vs4,d4,ds4,p4,q4,rfl,rfl,rfl,h4r,r4⟩:=trodAll_cons r3;obtain⟨v5,vs5,d5,ds5,p5,q5,rfl,rfl,rfl,h5r,r5⟩:=trodAll_cons r4;obtain⟨rfl,rfl,rfl⟩:=trodAll_nil r5;obtain rfl:args=#[v0,v1,v2,v3,v4,v5]:=by cases args;simp_all
 obtain⟨rfl,rfl⟩:=trodVars_none hV;obtain⟨A0,n0,c0,x0,rfl,b0,h0,k0⟩:=LL (O_ 0 22 v0 rfl rfl) h0r;obtain⟨a1,rfl,rfl,rfl,w1z⟩:=open_int Tryz.underlying3 (O_ 1 3 v1 rfl rfl) h1r;have w1:=mY w1z;obtain⟨a2,rfl,rfl,rfl,w2z⟩:=open_int Tryz.underlying3 (O_ 2 3 v2 rfl rfl) h2r;have w2:=mY w2z;obtain⟨a3,rfl,rfl,rfl,w3z⟩:=open_int Tryz.underlying3 (O_ 3 3 v3 rfl rfl) h3r;have w3:=mY w3z;obtain⟨e40,e41,e42,y40,y41,y42,m4,rfl,rfl,rfl,ah1,ah0,ahZ⟩:=Go.Joins.open_agg3 Tryz.underlying24 (by kernel_rfl) (by kernel_rfl) (O_ 4 24 v4 rfl rfl) h4r;obtain⟨a40,ajD,ah5,_⟩:=DataW.trod_int Tryz.underlying3 ah1;obtain rfl:e40=.int .i64 a40:=by simpa using ajD
 subst ah5;obtain⟨a41,ajC,ah4,_⟩:=DataW.trod_int Tryz.underlying3 ah0;obtain rfl:e41=.int .i64 a41:=by simpa using ajC
 subst ah4;obtain⟨a42,ajB,ah3,_⟩:=DataW.trod_int Tryz.underlying3 ahZ;obtain rfl:e42=.int .i64 a42:=by simpa using ajB
 subst ah3;obtain⟨A5,n5,c5,x5,rfl,h5,b5,k5⟩:=LQ (O_ 5 25 v5 rfl rfl) h5r;clear hA0 abQ;simp only[ace,abz] at hW' hAA;obtain⟨g0,g1⟩:=NZ Y0 hL;have eW:=CC g0 g1;refine(GJ W ((GI A5 c0 x5 a40 a41 a42 (LO g0) (LP g1) (h0.d eW) b0 w1 w2 w3 (h5.den eW) b5 k5).den eW.symm)).mono λ e W' ⟨he,hb⟩=>?_;subst he;exact⟨_,rfl,LK LJ (by rw[Tryz.params3];intro t ht;simp at ht;first|(subst ht;exact⟨by kernel_rfl,aa9 (by kernel_rfl)⟩)|(rcases ht with rfl|rfl <;> exact⟨by kernel_rfl,aa9 (by kernel_rfl)⟩)|(rcases ht with rfl|rfl|rfl <;> exact⟨by kernel_rfl,aa9 (by kernel_rfl)⟩)|(rcases ht with rfl|rfl|rfl|rfl <;> exact⟨by kernel_rfl,aa9 (by kernel_rfl)⟩)|(rcases ht with rfl|rfl|rfl|rfl|rfl <;> exact⟨by kernel_rfl,aa9 (by kernel_rfl)⟩)|(rcases ht with rfl|rfl|rfl|rfl|rfl|rfl <;> exact⟨by kernel_rfl,aa9 (by kernel_rfl)⟩)) hW' rfl hAA (λ _ _ _=>trodAll_cons_mk (shut_bool Tryz.underlying4 _) trodAll_mk0) rfl (λ _=>rfl) hb⟩
theorem t8:(Rows.peerErrorsRow.inPlace == Tryz.prog.inPlace 3)=true:=by kernel_rfl
theorem qS:(Rows.peerErrorsRow.named == Tryz.prog.varsNamed 3)=true:=by kernel_rfl
theorem qg:(Rows.peerErrorsRow.unfollowed == Tryz.prog.unfollowed 3)=true:=by kernel_rfl
theorem tG:(Rows.peerErrorsRow.recurses == Tryz.prog.recurses 3)=true:=by kernel_rfl
theorem ua:laidOutB Tryz.prog=true:=by kernel_rfl
theorem qT:mapsRowed Tryz.prog=true:=by kernel_rfl
theorem qU:(Rows.peerErrorsRow.plainKeys == Tryz.prog.plainKeys)=true:=by kernel_rfl
theorem Aq:Tryz.prog.mayEnter=true:=by kernel_rfl
theorem Ar:Tryz.prog.stopsHeard=true:=by kernel_rfl
theorem xp:joinedFacts Tryz.prog 3 Tryz.f3 Rows.peerErrorsSpec Rows.peerErrorsRow=true:=by
 unfold joinedFacts;simp only[t8,qS,qg,tG,ua,qT,qU,Aq,Ar,Bool.and_true,Bool.true_and]
 kernel_rfl
theorem CD:Rows.PeerErrorsSaid :=
 OpenClaim.holds_of_wide 3 Tryz.f3 rfl rfl rfl rfl rfl rfl rfl ⟨rfl,rfl,rfl,rfl,rfl⟩ rfl rfl rfl rfl rfl (by kernel_rfl) Tryz.func3 xp
  (aa9 (by kernel_rfl)) (by unfold Func.isWrapper;first|(rw[if_pos (by decide+kernel)];kernel_rfl)|(rw[if_neg (by decide+kernel)];exact⟨rfl,rfl⟩))
  (λ os started H enc _=>xo os started H enc)
theorem CE:false=Rows.peerErrorsRow.goesBy Tryz.prog:=by kernel_rfl
theorem Au:Tryz.prog.funcNamed "arenanet/arenanetlaw25.PeerErrors"=some 3:=by kernel_rfl
theorem CF:false=Tryz.prog.looks []:=by kernel_rfl
end
end Go.Proofs.YtogafelgppjklaaGreatDoor
