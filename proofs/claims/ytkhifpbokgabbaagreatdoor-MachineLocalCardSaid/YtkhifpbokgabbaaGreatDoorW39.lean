import Derived.Test.YtkhifpbokgabbaaGreatDoorW38
import Derived.Test.YtkhifpbokgabbaaGreatDoorW35
import Derived.Test.YtkhifpbokgabbaaGreatDoorW33
import Derived.Test.YtkhifpbokgabbaaGreatDoorRows
import Derived.Lib.LaidTab
import Derived.MakeChecks
import Derived.Test.YtkhifpbokgabbaaGreatDoorTie
import Derived.Test.YtkhifpbokgabbaaGreatDoorCards
import Derived.SevenTiedAt
import Derived.JoinedOf
import Derived.KernelRfl
set_option maxHeartbeats 4000000
set_option maxRecDepth 100000
set_option linter.unusedSimpArgs false
set_option linter.unusedVariables false
namespace Go.Proofs.YtkhifpbokgabbaaGreatDoor
open Go.ChangeShapes Go.WideShapes Go.ChangeAt Go.RowKit
theorem cells_of_tabS {H:Type} {enc:TypeId × Value -> H} {P:Program} {w:World} {base:Nat} {sp:Nat -> Bool} {held:Bool} {fuel:Nat} {t e:TypeId} {n m:Nat} {k:IntKind} {fs:Array Field} {cs:List Value} {zs:List (List Int)} {p:List MemPlace}
    (ht:P.underlying t=some (.array n e)) (he:P.underlying e=some (.struct fs)) (hce:P.cellsOf e=m) (hct:P.cellsOf t=n * m) (hm:0 < m) (hfl:fs.toList.length=m)
    (hf:∀ (j:Nat) f,fs.toList[j]?=some f -> P.underlying f.type=some (.int k) /\ P.cellsOf f.type=1 /\ f.offset=j) (hz:∀ z ∈ zs,z.length=m)
    (h:DataW.trod enc P w base sp held fuel t cs=some (.agg (zs.map λ z=>.agg (z.map λ x=>.lit (.int k x))),p)) :
    cs.length=n * m /\ zs.length=n /\ ∀ i j,i < n -> j < m -> cs[i * m+j]?=some (.int k ((zs.getD i []).getD j 0)):=by
  cases fuel with
  | zero=>simp [DataW.trod] at h
  | succ fuel =>
    simp only [DataW.trod,ht,hce,hct] at h
    split at h
    case isFalse=>cases h
    rename_i hl
    obtain ⟨xs,hmm,hx⟩:=Option.map_eq_some_iff.1 h
    have hxs:xs.map (·.1)=zs.map λ z=>(DataW.agg (z.map λ x=>.lit (.int k x)):DataW H):=by
      have:=congrArg Prod.fst hx
      simpa using this
    have hxl:xs.length=n:=by simpa using Lib.mapM_length hmm
    have hzl:zs.length=n:=by
      have:=congrArg List.length hxs
      simp at this
      omega
    refine ⟨hl,hzl,λ i j hi hj=>?_⟩
    obtain ⟨b,hb,hfb⟩:=Lib.mapM_at hmm i i (by simp [hi])
    have hbz:b.1=.agg ((zs.getD i []).map λ x=>.lit (.int k x)):=by
      have h2:(xs.map (·.1))[i]?=some b.1:=by simp [hb]
      rw [hxs,List.getElem?_map,List.getElem?_eq_getElem (by omega)] at h2
      simp only [Option.map_some,Option.some.injEq] at h2
      rw [<- h2,List.getD_eq_getElem?_getD,List.getElem?_eq_getElem (by omega)]
      rfl
    have hzi:(zs.getD i []).length=m:=by
      rw [List.getD_eq_getElem?_getD,List.getElem?_eq_getElem (by omega)]
      exact hz _ (List.getElem_mem _)
    cases fuel with
    | zero=>simp [DataW.trod] at hfb
    | succ fuel =>
      have hfb':=hfb
      simp only [DataW.trod,he,hce] at hfb'
      split at hfb'
      case isFalse=>cases hfb'
      rename_i hcl
      obtain ⟨ys,hym,hy⟩:=Option.map_eq_some_iff.1 hfb'
      have hys:ys.map (·.1)=(zs.getD i []).map λ x=>(DataW.lit (.int k x):DataW H):=by
        have:=congrArg Prod.fst hy
        rw [hbz] at this
        simpa using this
      have hfj:fs.toList[j]?=some (fs.toList[j]'(by omega)):=List.getElem?_eq_getElem (by omega)
      obtain ⟨c,hc,hfc⟩:=Lib.mapM_at hym j _ hfj
      obtain ⟨f1,f2,f3⟩:=hf j _ hfj
      rw [f2,f3] at hfc
      obtain ⟨x,hcx,hcd,_⟩:=DataW.trod_int f1 hfc
      have h1:(((cs.drop (i * m)).take m).drop j).take 1=[.int k x]:=hcx
      have h2:cs[i * m+j]?=some (.int k x):=by
        have:=congrArg (·[0]?) h1
        simpa [List.getElem?_take,List.getElem?_drop,hj] using this
      have h3:(ys.map (·.1))[j]?=some (DataW.lit (.int k x):DataW H):=by simp [hc,hcd]
      rw [hys,List.getElem?_map,List.getElem?_eq_getElem (by omega)] at h3
      simp only [Option.map_some,Option.some.injEq,DataW.lit.injEq,Lit.int.injEq,true_and] at h3
      have h4:∀ l:List Int,(hl:j < l.length) -> l[j]=l.getD j 0:=λ l hl=>by simp [List.getD_eq_getElem?_getD,hl]
      rw [h2,<- h3,h4 _ (by omega)]
theorem returnsInHanded_shaped {H:Type} {enc:TypeId × Value -> H} {a:Assume} {C:Checked} {os:Os} {f:FuncId} {fn:Func} {s:ChangeSpec} {conds:List PathCond} {apart fresh handsOn again:Bool} {X:World -> Array Value -> Prop}
    (hX:∀ (w w':World) (args:Array Value),w.heap=w'.heap -> X w args -> X w' args)
    (own:ownKnob C.prog.godebug=none) (started:os.Started) (noInit:C.prog.inits.idxOf? f=none) (hfn:C.prog.funcs[f]?=some fn)
    (witness:∃ (w:World) (tape:Tape) (i:Input),w.os=os /\ (w.forCall tape i).Shaped C.prog /\ i.vars=[] /\ Input.okWide C.prog (w.forCall tape i) .any w.heap.size f i /\
      ((s.pre enc C.prog fn conds apart (w.forCall tape i).memory i.args /\ X (w.forCall tape i).memory i.args) /\ sizedMet enc C.prog fn (OpenSpec.ofChange s) apart (w.forCall tape i).memory i.args) /\ a.holds C.prog (lone (Frame.enter C.prog f i.args .normal) [] (w.forCall tape i)))
    (contract:∀ (W:World) (base:Nat) (args:Array Value) (ds gs:List (DataW H)) (before:List MemPlace),W.ShapedOpen C.prog ->
      (∀ (j:Nat) t v,fn.params[j]?=some t -> args[j]?=some v -> Value.okWide C.prog W .any base t v) ->
      DataW.Whole enc C.prog fn.params.toList s.vars apart W args.toList ds gs before -> X W args ->
      Calls C.prog f args W λ e W'=>∃ v,e=.returned v /\ s.post enc C.prog fn apart fresh handsOn again W args v W') :
    ReturnsInHanded a C os f .any (λ w args=>(s.pre enc C.prog fn conds apart w args /\ X w args) /\ sizedMet enc C.prog fn (OpenSpec.ofChange s) apart w args) (s.post enc C.prog fn apart fresh handsOn again):=by
  refine returnsInHanded_of_calls own started noInit witness ?_
  intro w tape i _ hsh _ hok hpre hholds
  obtain ⟨_,_,_,fn',hfn',_,_,_,_,hval⟩:=hok
  have e:fn'=fn:=Option.some.inj (hfn'.symm.trans hfn)
  subst e
  obtain ⟨⟨⟨ds,gs,before,hw,hc⟩,hx⟩,hz⟩:=hpre
  have hw':=DataW.Whole.of_heap (w':=w.forCall tape i) (by rfl) hw
  refine (contract (w.forCall tape i) w.heap.size i.args ds gs before hsh hval hw' (hX _ _ _ (by rfl) hx)).mono λ e W' ⟨v,he,hp⟩=>?_
  subst he
  exact ChangeSpec.post_blind hp
def ceZ:List (List Int):=ceT.map λ z=>[z.1,z.2]
def efZ:List (List Int):=effT.map λ z=>[z.1,z.2.1,z.2.2]
theorem glob_row (g:Nat) (t:TypeId) (hg:g < Tryz.prog.globals.size) (h0:(((begin Tryz.prog (λ _ _=>0) default).world.heap[g]?).bind Obj.row?).map (·.2)=some t) {W:World} (hs:W.ShapedOpen Tryz.prog):∃ cs,W.heap[g]?=some (.cells cs t (0,0)):=by
  cases h:((begin Tryz.prog (λ _ _=>0) default).world.heap[g]?).bind Obj.row? with
  | none=>rw [h] at h0;cases h0
  | some x =>
    obtain ⟨z,t'⟩:=x
    rw [h] at h0
    simp only [Option.map_some,Option.some.injEq] at h0
    subst h0
    obtain ⟨cs,h1,_⟩:=hs.1 g z t' hg h
    exact ⟨cs,h1⟩
def recOk (P:Program) (e:TypeId) (m:Nat):Bool :=
  match P.underlying e with
  | some (.struct fs)=>decide (fs.toList.length=m) && (List.range m).all λ j =>
    match fs.toList[j]? with
    | some f=>(match P.underlying f.type with | some (.int .i64)=>true | _=>false) && decide (P.cellsOf f.type=1) && decide (f.offset=j)
    | none=>false
  | _=>false
theorem recOk_use {P:Program} {e:TypeId} {m:Nat} (h:recOk P e m=true):∃ fs:Array Field,P.underlying e=some (.struct fs) /\ fs.toList.length=m /\
    ∀ (j:Nat) f,fs.toList[j]?=some f -> P.underlying f.type=some (.int .i64) /\ P.cellsOf f.type=1 /\ f.offset=j:=by
  unfold recOk at h
  split at h
  case h_2=>cases h
  rename_i fs hfs
  rw [Bool.and_eq_true] at h
  have hm:fs.toList.length=m:=of_decide_eq_true h.1
  refine ⟨fs,hfs,hm,λ j f hj=>?_⟩
  have hjm:j < m:=by rw [<- hm];exact (List.getElem?_eq_some_iff.1 hj).1
  have h2:=List.all_eq_true.1 h.2 j (List.mem_range.2 hjm)
  rw [hj] at h2
  simp only [Bool.and_eq_true,decide_eq_true_eq] at h2
  refine ⟨?_,h2.1.2,h2.2⟩
  have h3:=h2.1.1
  split at h3
  · assumption
  · cases h3
theorem tab_blk {P:Program} {W:World} {name:String} {g n m:Nat} {t e:TypeId} {zs:List (List Int)} {rest:List (String × DataW Unit)} {ps:List MemPlace} {row:Nat -> Nat -> Value} {cs0:Array Value}
    (hb:W.heap[g]?=some (.cells cs0 t (0,0)))
    (hg:P.globalNamed name=some g) (hty:(P.globals[g]?).map (·.type)=some t) (ht:P.underlying t=some (.array n e)) (hE:recOk P e m=true) (hce:P.cellsOf e=m) (hct:P.cellsOf t=n * m) (hm:0 < m) (hz:∀ z ∈ zs,z.length=m)
    (hrow:∀ i j,i < n -> j < m -> row i j=.int .i64 ((zs.getD i []).getD j 0))
    (h:DataW.LaidVars P W ((name,.agg (zs.map λ z=>.agg (z.map λ x=>.lit (.int .i64 x)))) :: rest) ps):W.heap[g]?=some (Blk.rows m n row t (0,0)).den /\ ∃ q,DataW.LaidVars P W rest q:=by
  obtain ⟨fs,he,hfl,hf⟩:=recOk_use hE
  obtain ⟨g',t',cs,fuel,p,q,hg',ht',hvar,hd,hr,_⟩:=h
  obtain rfl:=Option.some.inj (hg.symm.trans hg')
  obtain rfl:=Option.some.inj (hty.symm.trans ht')
  have hv:W.var? P name=some cs0:=by
    unfold World.var?
    rw [hg]
    simp only [Option.bind_some,hb]
  obtain rfl:=Option.some.inj (hv.symm.trans hvar)
  obtain ⟨h1,h2,h3⟩:=cells_of_tabS ht he hce hct hm hfl hf hz hd
  refine ⟨?_,q,hr⟩
  rw [hb]
  show some (Obj.cells cs0 t (0,0))=some (Obj.cells ⟨rowsOf m row n⟩ t (0,0))
  congr 2
  obtain ⟨l⟩:=cs0
  congr 1
  symm
  exact rowsOf_ext (w:=m) h1 λ i j hi hj=>by rw [hrow i j hi hj];exact h3 i j hi hj
theorem glob_of {W:World} (hs:W.ShapedOpen Tryz.prog) (hL:laidMetH Tryz.prog [("arenanet/compile.effects",Rows.laid_arenanet_compile_effects),("arenanet/vm.effects",Rows.laid_arenanet_vm_effects)] W):W.heap[0]?=some (Blk.rows 2 22 ceffrow 138 (0,0)).den /\ W.heap[1]?=some (Blk.rows 3 22 effrow 180 (0,0)).den:=by
  rw [MakeChecks.laidMetH_plain _ _ _ (by kernel_rfl)] at hL
  obtain ⟨ps,hv,_,_⟩:=hL
  obtain ⟨cs0,hb0⟩:=glob_row 0 138 (of_decide_eq_true (by kernel_rfl)) (by kernel_rfl) hs
  obtain ⟨cs1,hb1⟩:=glob_row 1 180 (of_decide_eq_true (by kernel_rfl)) (by kernel_rfl) hs
  have hv0:DataW.LaidVars Tryz.prog W (("arenanet/compile.effects",.agg (ceZ.map λ z=>.agg (z.map λ x=>.lit (.int .i64 x)))) :: [("arenanet/vm.effects",.agg (efZ.map λ z=>.agg (z.map λ x=>.lit (.int .i64 x))))]) ps:=hv
  obtain ⟨h0,q,hq⟩:=tab_blk (n:=22) (m:=2) (e:=137) (row:=ceffrow) hb0 (by kernel_rfl) (by kernel_rfl) (by kernel_rfl) (by kernel_rfl) (by kernel_rfl) (by kernel_rfl) (by decide) (by decide) (λ i j hi hj=>by
    have key:∀ i:Fin 22,∀ j:Fin 2,(if j.1=0 then (ceT.getD i.1 (0,0)).1 else (ceT.getD i.1 (0,0)).2)=(ceZ.getD i.1 []).getD j.1 0:=by decide
    have:=key ⟨i,hi⟩ ⟨j,hj⟩
    rcases j with _ | _ | j
    · exact congrArg (Value.int .i64) this
    · exact congrArg (Value.int .i64) this
    · omega) hv0
  obtain ⟨h1,_⟩:=tab_blk (n:=22) (m:=3) (e:=179) (row:=effrow) hb1 (by kernel_rfl) (by kernel_rfl) (by kernel_rfl) (by kernel_rfl) (by kernel_rfl) (by kernel_rfl) (by decide) (by decide) (λ i j hi hj=>by
    have key:∀ i:Fin 22,∀ j:Fin 3,(if j.1=0 then (effT.getD i.1 (0,0,0)).1 else if j.1=1 then (effT.getD i.1 (0,0,0)).2.1 else (effT.getD i.1 (0,0,0)).2.2)=(efZ.getD i.1 []).getD j.1 0:=by decide
    have:=key ⟨i,hi⟩ ⟨j,hj⟩
    rcases j with _ | _ | _ | j
    · exact congrArg (Value.int .i64) this
    · exact congrArg (Value.int .i64) this
    · exact congrArg (Value.int .i64) this
    · omega) hq
  exact ⟨h0,h1⟩
def worldE (W:World):HL:=List.ofFn (λ k:Fin W.heap.size=>(k.1,if k.1=0 then Blk.rows 2 22 ceffrow 138 (0,0) else if k.1=1 then Blk.rows 3 22 effrow 180 (0,0) else blkOf W.heap[k.1]))
theorem worldE_den {W:World} (h0:W.heap[0]?=some (Blk.rows 2 22 ceffrow 138 (0,0)).den) (h1:W.heap[1]?=some (Blk.rows 3 22 effrow 180 (0,0)).den):denL (worldF W)=denL (worldE W):=by
  unfold denL worldF worldE
  rw [List.map_ofFn,List.map_ofFn]
  congr 1
  funext k
  show (k.1,(blkOf W.heap[k.1]).den)=(k.1,Blk.den (if k.1=0 then _ else if k.1=1 then _ else _))
  rw [blkOf_den]
  congr 1
  by_cases e0:k.1=0
  · rw [if_pos e0]
    have h2:W.heap[k.1]?=some (Blk.rows 2 22 ceffrow 138 (0,0)).den:=by rw [show W.heap[k.1]?=W.heap[0]? by rw [e0]];exact h0
    rw [Array.getElem?_eq_getElem k.2] at h2
    exact Option.some.inj h2
  · rw [if_neg e0]
    by_cases e1:k.1=1
    · rw [if_pos e1]
      have h2:W.heap[k.1]?=some (Blk.rows 3 22 effrow 180 (0,0)).den:=by rw [show W.heap[k.1]?=W.heap[1]? by rw [e1]];exact h1
      rw [Array.getElem?_eq_getElem k.2] at h2
      exact Option.some.inj h2
    · rw [if_neg e1,blkOf_den]
theorem worldE_c {W:World} (h0:W.heap[0]?=some (Blk.rows 2 22 ceffrow 138 (0,0)).den):CefIn (worldE W) :=
  List.mem_ofFn.2 ⟨⟨0,(Array.getElem?_eq_some_iff.1 h0).1⟩,rfl⟩
theorem worldE_e {W:World} (h1:W.heap[1]?=some (Blk.rows 3 22 effrow 180 (0,0)).den):EffIn (worldE W) :=
  List.mem_ofFn.2 ⟨⟨1,(Array.getElem?_eq_some_iff.1 h1).1⟩,rfl⟩
noncomputable def laidWorld (os:Os):World:=World.laidAll Tryz.prog os Rows.machineLocalRow.laid
theorem local_lifted (os:Os) (started:os.Started) (H:Type) (enc:TypeId × Value -> H) :
    ReturnsInHanded {} Tryz.checked os 3 .any (λ w args=>(Rows.machineLocalSpec.pre enc Tryz.prog Tryz.f3 [] false w args /\ laidMetH Tryz.prog Rows.machineLocalRow.laid w) /\ sizedMet enc Tryz.prog Tryz.f3 (OpenSpec.ofChange Rows.machineLocalSpec) false w args)
      (Rows.machineLocalSpec.post enc Tryz.prog Tryz.f3 false true false false):=by
  refine returnsInHanded_shaped (C:=Tryz.checked) (X:=λ w _=>laidMetH Tryz.prog Rows.machineLocalRow.laid w) (λ _ _ _ hh h=>h.of_heap hh) own_knob started (by kernel_rfl) Tryz.func3
    (ChangeSpec.witness_at (enc:=enc) (C:=Tryz.checked) (os:=os) (X:=λ w _=>laidMetH Tryz.prog Rows.machineLocalRow.laid w) false (laidWorld os) #[.slice none 0 0,.slice none 0 0,.slice none 0 0,.int .i64 0] 8 (World.laidAll_os _ _ _) (by kernel_rfl) (by kernel_rfl) (by kernel_rfl) (by kernel_rfl) (by kernel_rfl) (laidMetH_of_parts (laidMet_laidAll _ (by kernel_rfl) (by kernel_rfl)) (by kernel_rfl))) ?_
  intro W base args ds gs before hsh hval0 hW hL
  have hval:∀ (j:Nat) t v,Tryz.f3.params[j]?=some t -> args[j]?=some v -> Value.okWide Tryz.prog W .any base t v:=hval0
  have hW':=hW
  obtain ⟨p,q,hA0,hV,rfl,hfz,hnd⟩:=hW
  have hA:DataW.TrodAll enc Tryz.prog W 0 (λ _=>true) true Tryz.f3.params.toList args.toList ds p:=hA0
  have hAA:=hA
  rw [Tryz.params3] at hA hval
  obtain ⟨v0,vs0,d0,ds0,p0,q0,hargs,rfl,rfl,h0r,r0⟩:=trodAll_cons hA
  obtain ⟨v1,vs1,d1,ds1,p1,q1,rfl,rfl,rfl,h1r,r1⟩:=trodAll_cons r0
  obtain ⟨v2,vs2,d2,ds2,p2,q2,rfl,rfl,rfl,h2r,r2⟩:=trodAll_cons r1
  obtain ⟨v3,vs3,d3,ds3,p3,q3,rfl,rfl,rfl,h3r,r3⟩:=trodAll_cons r2
  obtain ⟨rfl,rfl,rfl⟩:=trodAll_nil r3
  obtain rfl:args=#[v0,v1,v2,v3]:=by cases args;simp_all
  obtain ⟨rfl,rfl⟩:=trodVars_none hV
  obtain ⟨A0,n0,c0,x0,rfl,b0,h0,k0⟩:=open_arg (hval 0 22 v0 rfl rfl) h0r
  obtain ⟨A1,n1,c1,x1,rfl,b1,h1,k1⟩:=open_arg (hval 1 22 v1 rfl rfl) h1r
  obtain ⟨A2,n2,c2,x2,rfl,b2,h2,k2⟩:=open_arg (hval 2 22 v2 rfl rfl) h2r
  obtain ⟨a3,rfl,rfl,rfl,w3z⟩:=open_int Tryz.underlying3 (hval 3 3 v3 rfl rfl) h3r
  have w3:=int_range w3z
  clear hA0 hval0
  simp only [List.append_nil,List.nil_append] at hW' hAA
  obtain ⟨g0,g1⟩:=glob_of hsh hL
  have eW:=worldE_den g0 g1
  refine (Sp.callsW W ((local_law A0 A1 A2 n0 c0 n1 c1 n2 c2 x0 x1 x2 a3 (worldE W) (worldE_e g1) (worldE_c g0) (h0.d eW) b0 (h1.d eW) b1 k1 (h2.d eW) b2 w3).den eW.symm)).mono λ e W' ⟨he,hb⟩=>?_
  subst he
  exact ⟨_,rfl,post_law laid_out (by rw [Tryz.params3];intro t ht;simp at ht;first | (subst ht;exact ⟨by kernel_rfl,of_decide_eq_true (by kernel_rfl)⟩) | (rcases ht with rfl | rfl <;> exact ⟨by kernel_rfl,of_decide_eq_true (by kernel_rfl)⟩) | (rcases ht with rfl | rfl | rfl <;> exact ⟨by kernel_rfl,of_decide_eq_true (by kernel_rfl)⟩) | (rcases ht with rfl | rfl | rfl | rfl <;> exact ⟨by kernel_rfl,of_decide_eq_true (by kernel_rfl)⟩)) hW' rfl hAA (λ _ _ _=>trodAll_cons_mk (shut_bool Tryz.underlying4 _) trodAll_mk0) rfl (λ _=>rfl) hb⟩
theorem local_inPlace:(Rows.machineLocalRow.inPlace == Tryz.prog.inPlace 3)=true:=by kernel_rfl
theorem local_varsNamed:(Rows.machineLocalRow.named == Tryz.prog.varsNamed 3)=true:=by kernel_rfl
theorem local_unfollowed:(Rows.machineLocalRow.unfollowed == Tryz.prog.unfollowed 3)=true:=by kernel_rfl
theorem local_recurses:(Rows.machineLocalRow.recurses == Tryz.prog.recurses 3)=true:=by kernel_rfl
theorem local_laidOut:laidOutB Tryz.prog=true:=by kernel_rfl
theorem local_mapsRowed:mapsRowed Tryz.prog=true:=by kernel_rfl
theorem local_plainKeys:(Rows.machineLocalRow.plainKeys == Tryz.prog.plainKeys)=true:=by kernel_rfl
theorem local_enter:Tryz.prog.mayEnter=true:=by kernel_rfl
theorem local_heard:Tryz.prog.stopsHeard=true:=by kernel_rfl
theorem local_closed:joinedFacts Tryz.prog 3 Tryz.f3 Rows.machineLocalSpec Rows.machineLocalRow=true:=by
  unfold joinedFacts
  simp only [local_inPlace,local_varsNamed,local_unfollowed,local_recurses,local_laidOut,local_mapsRowed,local_plainKeys,local_enter,local_heard,Bool.and_true,Bool.true_and]
  kernel_rfl
theorem local_over:Rows.MachineLocalSaid :=
  OpenClaim.holds_of_wide 3 Tryz.f3 rfl rfl rfl rfl rfl rfl rfl ⟨rfl,rfl,rfl,rfl,rfl⟩ rfl rfl rfl rfl rfl (by kernel_rfl) Tryz.func3 local_closed
    (of_decide_eq_true (by kernel_rfl)) (by unfold Func.isWrapper;first | (rw [if_pos (by decide +kernel)];kernel_rfl) | (rw [if_neg (by decide +kernel)];exact ⟨rfl,rfl⟩))
    (λ os started H enc _=>local_lifted os started H enc)
theorem local_goes:false=Rows.machineLocalRow.goesBy Tryz.prog:=by kernel_rfl
theorem local_fname:Tryz.prog.funcNamed "arenanet/arenanetlaw18.MachineLocal"=some 3:=by kernel_rfl
theorem prog_looks:false=Tryz.prog.looks []:=by kernel_rfl
end Go.Proofs.YtkhifpbokgabbaaGreatDoor
