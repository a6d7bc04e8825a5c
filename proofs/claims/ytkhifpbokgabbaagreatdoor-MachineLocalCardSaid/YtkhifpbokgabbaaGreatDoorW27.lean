import Derived.Test.YtkhifpbokgabbaaGreatDoorW11
import Derived.Test.YtkhifpbokgabbaaGreatDoorW26
import Derived.Test.YtkhifpbokgabbaaGreatDoorW23
set_option maxHeartbeats 4000000
set_option maxRecDepth 100000
set_option linter.unusedSimpArgs false
set_option linter.unusedVariables false
namespace Go.Proofs.YtkhifpbokgabbaaGreatDoor
open Go.RowKit Go.Shelf
def SpD (P:Program) (f:FuncId) (args:Array Value) (H F:HL) (R:Value -> HL -> Prop):Prop :=
  ∀ w,Rel (H++F) w -> CallsDIn (Wr none) 0 P f args .returning w λ e u' w'=>u'=.returning /\ ∃ v H',e=.returned v /\ R v H' /\ Rel (H'++F) w' /\ Below 0 w w'
theorem SpD.mono {P:Program} {f:FuncId} {args:Array Value} {H F:HL} {R R':Value -> HL -> Prop} (h:SpD P f args H F R) (hr:∀ v H',R v H' -> R' v H'):SpD P f args H F R' :=
  λ w hR=>(h w hR).mono λ e u' w' ⟨h0,v,H',h1,h2,h3,h4⟩=>⟨h0,v,H',h1,hr _ _ h2,h3,h4⟩
section
variable {r:Option Nat} {P:Program} {N:Nat} {D:List Deferred} {F:HL} {w0:World} {R:HL} {s:Cfg} {Q:Exit -> Act -> World -> Prop}
theorem SpD.run {f:FuncId} {fn:Func} {c:Code} {args:Array Value} {H:HL} {R':Value -> HL -> Prop} (hf:P.funcs[f]?=some fn) (hb:fn.body=some c) (hR:∀ y ∈ R,y ∈ F) {A:HL} {Ts:List HL} (hH:H=ap A Ts)
    (h:∀ w0,RN none P fn.ntmps [] F w0 R ⟨.code c,[],initL 0 args.toList,A,Ts⟩ (bodyPost P fn (SpR F w0 R'))) (ha:decide (args.size <= fn.ntmps)=true:=by kernel_rfl):SpD P f args H F R':=by
  subst hH
  intro w hRel
  have ha':args.size <= fn.ntmps:=of_decide_eq_true ha
  refine (callsDIn_of_wp (F:=Wr none) (n:=0) (u:=.returning) (R:=SpR F w R') hf hb trivial ?_).mono λ e u' w' ⟨h1,h2⟩=>⟨h1,h2⟩
  refine (h w).h hR _ w ⟨?_,rfl,?_⟩ hRel (Below.refl _ _)
  · simp;omega
  · intro t v ht
    obtain ⟨_,h2⟩:=initL_lookup 0 _ t v ht
    have h3:args[t]?=some v:=by simpa using h2
    have hlt:t < args.size:=(Array.getElem?_eq_some_iff.1 h3).1
    simp only
    rw [Array.getElem?_append_left hlt]
    exact h3
def dfR (N:Nat) (s:Cfg):Option (FuncId × Array Value × Array Value):=match opAt s with
  | some o=>match o.guard,o.op,(putL N o.dst undef s.L).isSome with
    | none,.defer c,true=>match c.callee with
      | .value f=>match inL s.L f && c.args.toList.all (inL s.L) with
        | true=>match rho s.L f with
          | .func (.func g) first cap=>some (g,first++c.args.map (rho s.L),cap)
          | _=>none
        | false=>none
      | _=>none
    | _,_,_=>none
  | none=>none
abbrev dfD (g:FuncId) (args cap:Array Value):Deferred:={ target:=.fn (.func g) cap,args:=args }
theorem map_rho {L:FL} {a:Act} (hF:Fm N D L a):∀ (l:List Operand),l.all (inL L)=true -> l.map a.eval=l.map (rho L)
  | [],_=>rfl
  | x :: l,h=>by
    rw [List.all_cons,Bool.and_eq_true] at h
    rw [List.map_cons,List.map_cons,hF.eval h.1,map_rho hF l h.2]
theorem RN.df {g:FuncId} {args cap:Array Value} (hk:RN none P N (dfD g args cap :: D) F w0 R (putC N undef s) Q) (h:dfR N s=some (g,args,cap):=by kernel_rfl):RN none P N D F w0 R s Q:=by
  refine ⟨λ hR a w hF hRel hB=>?_⟩
  obtain ⟨cc,kk,L,A,Ts⟩:=s
  unfold dfR at h
  split at h
  case h_2=>cases h
  rename_i o q0
  split at h
  case h_2=>cases h
  rename_i c q1 q2 q3
  split at h
  case h_2=>cases h
  rename_i f q4
  split at h
  case h_2=>cases h
  rename_i q5
  split at h
  case h_2=>cases h
  rename_i g' first cap' q6
  simp only [Option.some.injEq,Prod.mk.injEq] at h
  obtain ⟨e1,e2,e3⟩:=h
  subst e1;subst e2;subst e3
  unfold opAt at q0
  cases cc with
  | code c=>cases q0
  | ex c=>cases q0
  | drw _ _=>cases q0
  | ops ops j =>
    simp only at q0 q3 q5 q6 hF hRel
    have hdrop:ops.toList.drop j=o :: ops.toList.drop (j+1):=by
      have hlt:j < ops.toList.length:=(List.getElem?_eq_some_iff.1 q0).1
      rw [List.drop_eq_getElem_cons hlt,(List.getElem?_eq_some_iff.1 q0).2]
    show wpListIn _ _ _ _ _ _ _ _
    rw [hdrop,wpListIn,if_pos (by simp [Region.wanted,q1])]
    refine ⟨λ _ _=>trivial,?_⟩
    rw [Bool.and_eq_true] at q5
    obtain ⟨L',hl⟩:=putL_some q3 undef
    have hpc:putC N undef ⟨.ops ops j,kk,L,A,Ts⟩=⟨.ops ops (j+1),kk,L',A,Ts⟩:=by
      unfold putC
      simp only [q0,hl]
    have hh:=hk.h hR
    rw [hpc] at hh
    have hargs:c.args.map a.eval=c.args.map (rho L):=by
      apply Array.ext'
      rw [Array.toList_map,Array.toList_map]
      exact map_rho hF _ q5.2
    have e1:a.eval f=.func (.func g') first cap':=(hF.eval q5.1).trans q6
    have hex:(o.semAt (Wr none).round a.eval).run P w=.ok (.defer (dfD g' (first++c.args.map (rho L)) cap')) w:=by
      show (Oper.semAt none a.eval o).run P w=_
      rw [Oper.semAt_none]
      simp only [execOp,q2,resolve,q4,e1,Deferred.ofValue,Sem.run_bind,hargs]
      rfl
    rw [hex,Oper.uponIn_defer]
    have hF':Fm N (dfD g' (first++c.args.map (rho L)) cap' :: D) L { a with defers:=dfD g' (first++c.args.map (rho L)) cap' :: a.defers }:=⟨hF.size,by rw [<- hF.defs],hF.has⟩
    exact hh _ w (hF'.put hl) hRel hB
def ctC (i:Nat) (s:Cfg):Cfg:=match s with
  | ⟨c,k,L,A,Ts⟩=>match A[i]? with
    | some x=>⟨c,k,L,(oth [i] A.length).filterMap (A[·]?),[x] :: Ts⟩
    | none=>⟨c,k,L,A,Ts⟩
theorem RN.ctl (i:Nat) (hk:RN r P N D F w0 R (ctC i s) Q) (h:([i]++oth [i] s.A.length).isPerm (List.range s.A.length)=true:=by kernel_rfl):RN r P N D F w0 R s Q:=by
  refine ⟨λ hR a w h1 h2 h3=>?_⟩
  have h4:=hk.h hR a w
  obtain ⟨c,k,L,A,Ts⟩:=s
  unfold ctC at h4
  simp only at h4 h h1 h2
  split at h4
  case h_2=>exact h4 h1 h2 h3
  rename_i x hx
  have hp:=pick_perm A [i] (oth [i] A.length) h
  simp only [List.filterMap_cons,hx,List.filterMap_nil,List.cons_append,List.nil_append] at hp
  refine h4 h1 (h2.perm (List.Perm.append_right F ?_)) h3
  show ((oth [i] A.length).filterMap (A[·]?)++([x]++Ts.flatten)).Perm (A++Ts.flatten)
  rw [<- List.append_assoc]
  refine List.Perm.append_right _ (List.Perm.trans ?_ hp)
  exact List.perm_append_comm
structure LV (P:Program) (N:Nat) (D:List Deferred) (F:HL) (w0:World) (R:HL) (fn:Func) (R':Value -> HL -> Prop) (s:Cfg):Prop where
  h:(∀ y ∈ R,y ∈ F) -> ∀ a w,Fm N D s.L a -> Rel (ap s.A s.Ts++F) w -> Below 0 w0 w -> LeavesInM (Wr none) 0 P fn a.tmps (SpR F w0 R') a.defers .returning w
theorem RN.lv {fn:Func} {R':Value -> HL -> Prop} (hk:LV P N D F w0 R fn R' s) (hc:isDone s=true:=by kernel_rfl):RN none P N D F w0 R s (bodyPostM (Wr none) 0 P fn (SpR F w0 R')):=by
  refine ⟨λ hR a w hF hRel hB=>?_⟩
  have key:=hk.h hR a w hF hRel hB
  exact isDone_wf hc key key
def aftD (ip jp:List Nat) (Hq:HL) (Tq:List HL) (s:Cfg):Cfg:=setH (λ A=>Hq++(oth ip A.length).filterMap (A[·]?)) (λ Ts=>Tq++(oth jp Ts.length).filterMap (Ts[·]?)) s
theorem LV.df {τ:Type} {fn:Func} {R':Value -> HL -> Prop} {g:FuncId} {args cap:Array Value} (eg:∀ args w,(callFunc g args).run P w=.ok (.enter g args) w) (ip jp:List Nat) {Hp:HL} {Tp:List HL} {Hq:τ -> HL} {Tq:τ -> List HL} {Rv:Value -> τ -> Prop}
    (hc:SpD P g (args++cap) (ap Hp Tp) (ap (othA ip s) (othT jp s)++F) (λ v H'=>∃ x,H'=ap (Hq x) (Tq x) /\ Rv v x)) (hk:∀ v x,Rv v x -> LV P N D F w0 R fn R' (aftD ip jp (Hq x) (Tq x) s))
    (hp:permOk ip jp s=true:=by kernel_rfl) (hH:picks ip jp s=(Hp,Tp):=by kernel_rfl):LV P N (dfD g args cap :: D) F w0 R fn R' s:=by
  unfold permOk at hp
  unfold picks at hH
  rw [Bool.and_eq_true] at hp
  simp only [Prod.mk.injEq] at hH
  obtain ⟨e1,e2⟩:=hH
  refine ⟨λ hR a w hF hRel hB=>?_⟩
  have hperm:(ap Hp Tp++ap (othA ip s) (othT jp s)).Perm (ap s.A s.Ts):=by
    have h1:=ap_perm s.A s.Ts ip (oth ip s.A.length) jp (oth jp s.Ts.length) hp.1 hp.2
    rw [e1,e2] at h1
    exact h1
  have hR1:Rel (ap Hp Tp++(ap (othA ip s) (othT jp s)++F)) w:=by rw [<- List.append_assoc];exact hRel.perm (hperm.append_right F)
  rw [hF.defs]
  refine ⟨by simp,.inr ⟨(λ h=>by cases h),.func g,cap,g,args++cap,rfl,?_,λ _ _=>trivial,?_⟩⟩
  · show (callFunc g (args++cap)).run P w=_
    exact eg _ _
  · refine (hc w hR1).mono ?_
    rintro e u' w' ⟨rfl,v,H',rfl,⟨x,rfl,hv⟩,hR2,hB2⟩
    have:=(hk v x hv).h hR { a with defers:=D } w' ⟨hF.size,rfl,hF.has⟩ ?_ (hB.trans hB2)
    · exact this
    · unfold aftD
      rw [setH_eq.1,setH_eq.2.1]
      refine hR2.perm ?_
      exact (ap_swap _ _ _ _ _).symm
theorem LV.retO {fn:Func} {R':Value -> HL -> Prop} (hints:List Hint) (Ob:List Prop) (hob:AllP Ob) (ip jp:List Nat) {v:Value} {H':HL} (hv:R' v H')
    (h:∀ n0,retV P n0 fn.results.toList R hints s=some (v,resX (retV P n0 fn.results.toList R hints s),resX (retV P n0 fn.results.toList R hints s),Ob):=by intro n0;kernel_rfl)
    (hp:permOk ip jp s=true:=by kernel_rfl) (hH:ap (picks ip jp s).1 (picks ip jp s).2=H':=by kernel_rfl):LV P N [] F w0 R fn R' s:=by
  unfold permOk at hp
  unfold picks at hH
  refine ⟨λ hR a w hF hRel hB=>?_⟩
  rw [Bool.and_eq_true] at hp
  have h':=h w.heap.size
  unfold retV resE at h'
  split at h'
  case h_2=>cases h'
  rename_i vs ss hs
  split at h'
  case h_2=>cases h'
  simp only [resX,Option.some.injEq,Prod.mk.injEq] at h'
  obtain ⟨e1,-,e3,e4⟩:=h'
  have hrun:=resL_run (P:=P) hF hRel fn.results.toList _ _ _ hs rfl rfl hR (λ e=>by cases e) (pairs_eq rfl e3) (by rw [e4];exact AllP.mem hob)
  subst e1
  rw [hF.defs]
  exact ⟨_,results_run (by simp) hrun,_,H',rfl,hv,hRel.takeT ip _ jp _ hp.1 hp.2 hH,hB⟩
theorem LV.ret {fn:Func} {R':Value -> HL -> Prop} (hints:List Hint) (ip jp:List Nat) {v:Value} {H':HL} (hv:R' v H')
    (h:∀ n0,retV P n0 fn.results.toList R hints s=some (v,resX (retV P n0 fn.results.toList R hints s),resX (retV P n0 fn.results.toList R hints s),[]):=by intro n0;kernel_rfl)
    (hp:permOk ip jp s=true:=by kernel_rfl) (hH:ap (picks ip jp s).1 (picks ip jp s).2=H':=by kernel_rfl):LV P N [] F w0 R fn R' s:=LV.retO hints [] trivial ip jp hv h hp hH
theorem LV.bv {fn:Func} {R':Value -> HL -> Prop} (i:Nat) {b b':Blk} (e:b=b') (hk:LV P N D F w0 R fn R' (bvC i b' s)) (h:(s.A[i]?).map (·.2)=some b:=by kernel_rfl):LV P N D F w0 R fn R' s:=by
  subst e
  refine ⟨λ hR a w h1 h2 h3=>hk.h hR a w h1 ?_ h3⟩
  obtain ⟨c,k,L,A,Ts⟩:=s
  simp only [Option.map_eq_some_iff] at h
  obtain ⟨x,hx,e⟩:=h
  unfold bvC
  simp only [hx]
  refine h2.denA (setAt_den hx (by rw [e]))
end
def OKi (n:Nat) (i:Ins):Prop:=(1 <= i.op /\ i.op <= 21) /\ (i.op=18 \/ i.op=19 -> 0 <= i.n /\ i.n <= n)
def OKc (l:List Ins):Prop:=∀ i ∈ l,OKi l.length i
theorem OKi.up {n m:Nat} {i:Ins} (h:OKi n i) (hn:n <= m):OKi m i:=⟨h.1,λ e=>by have:=h.2 e;omega⟩
theorem OKc.nil:OKc []:=λ i hi=>by simp at hi
theorem OKc.snoc {l:List Ins} (h:OKc l) {op n:Int} (ho:1 <= op /\ op <= 21) (hn:op=18 \/ op=19 -> 0 <= n /\ n <= (l.length:Int)+1):OKc (l++[⟨op,n⟩]):=by
 intro i hi
 rw [List.length_append]
 rcases List.mem_append.1 hi with hi | hi
 ·exact (h i hi).up (by simp)
 ·simp only [List.mem_singleton] at hi
  subst hi
  exact ⟨ho,λ e=>by have:=hn e;simp;omega⟩
theorem OKc.setN {l:List Ins} (h:OKc l) {k:Nat} (hk:k < l.length) {z:Int} (hz:0 <= z /\ z <= l.length):OKc (l.set k ⟨(l.getD k dIns).op,z⟩):=by
 intro i hi
 rw [List.length_set]
 rcases List.mem_or_eq_of_mem_set hi with hi | rfl
 ·exact h i hi
 ·have:l.getD k dIns ∈ l:=getD_mem' hk
  exact ⟨(h _ this).1,λ _=>hz⟩
theorem crow_set {l:List Ins} {k:Nat} (h:k < l.length) (z:Int):updG (crow l) k 1 (vI z)=crow (l.set k ⟨(l.getD k dIns).op,z⟩):=by
 funext i' k'
 unfold updG
 by_cases h1:i'=k
 ·subst h1
  rcases k' with _ | _ | k'
  ·simp [crow,rowE,insE,h]
  ·simp [crow,rowE,insE,h]
  ·simp [crow,rowE,insE,h]
 ·have:¬ k=i':=λ e=>h1 e.symm
  simp [h1,crow,rowE,List.getElem?_set,this]
def gr:Nat -> Nat
 | 0=>0
 | h+1=>3 * gr h+5
theorem Ht.kids3 {h:Nat} {x:Nd} (hx:Ht (h+1) x):x.kids.length <= 3:=by cases hx with | mk _ _ _ _ _ _ _ hl _=>exact hl
theorem Ht.kid {h:Nat} {x y:Nd} (hx:Ht (h+1) x) (hy:y ∈ x.kids):Ht h y:=by cases hx with | mk _ _ _ _ _ _ _ _ hk=>exact hk y hy
theorem NdIn.up {F X:HL} {x:Nd} (h:NdIn F x):NdIn (X++F) x:=h.mono λ _ hy=>List.mem_append_right _ hy
abbrev trH (tb m:Nat) (e0 e1 e2:Int) (kv:List (ByteArray × Value)) (n:Nat) (A:Option Addr) (c:Nat):HL:=[(tb,.lit [.slice A n c,.map (some m),vI e0,vI e1,vI e2] 103 (0,0)),(m,.obj (smap kv))]
abbrev TrR (tb m:Nat) (e0 e1 e2:Int) (kv:List (ByteArray × Value)) (l:List Ins) (g:Nat):Value -> HL -> Prop:=λ u H'=>∃ x:List Ins × Option Addr × Nat × HL,H'=ap (trH tb m e0 e1 e2 kv x.1.length x.2.1 x.2.2.1) [x.2.2.2] /\ (SlIs insE 136 x.1 x.2.1 x.2.2.1 x.2.2.2 /\ zeroOff x.2.1 /\ l.length <= x.1.length /\ x.1.length <= l.length+g /\ OKc x.1)
def TrC (h:Nat):Prop:=∀ (x:Nd) (tb m:Nat) (e0 e1 e2:Int) (kv:List (ByteArray × Value)) (l:List Ins) (A:Option Addr) (c:Nat) (T F:HL),Ht h x -> NdIn F x -> SlIs insE 136 l A c T -> zeroOff A -> OKc l -> AllInt kv -> l.length+gr h <= 100000000 ->
 Sp Tryz.prog 36 #[vP tb 0,ndV x] (ap (trH tb m e0 e1 e2 kv l.length A c) [T]) F (TrR tb m e0 e1 e2 kv l (gr h))
theorem emit_any (tb m:Nat) (e0 e1 e2:Int) (kv:List (ByteArray × Value)) (l:List Ins) (A:Option Addr) (c:Nat) (T F:HL) (hs:SlIs insE 136 l A c T) (hz:zeroOff A) (ok:OKc l) (hkv:AllInt kv) (op n:Int) (ho:1 <= op /\ op <= 21) (hn:op=18 \/ op=19 -> 0 <= n /\ n <= (l.length:Int)+1) (hb:l.length+1 <= 100000000):Sp Tryz.prog 37 #[vP tb 0,vI op,vI n] (ap [(tb,.lit [.slice A l.length c,.map (some m),vI e0,vI e1,vI e2] 103 (0,0)),(m,.obj (smap kv))] [T]) F (λ u H'=>∃ x:List Ins × Option Addr × Nat × HL,H'=ap (trH tb m e0 e1 e2 kv x.1.length x.2.1 x.2.2.1) [x.2.2.2] /\ (u=vI (l.length:Int) /\ SlIs insE 136 x.1 x.2.1 x.2.2.1 x.2.2.2 /\ zeroOff x.2.1 /\ x.1.length=l.length+1 /\ OKc x.1)):=by
 refine Sp.run Tryz.func37 rfl mn (A:=[(tb,.lit [.slice A l.length c,.map (some m),vI e0,vI e1,vI e2] 103 (0,0)),(m,.obj (smap kv))]) (Ts:=[T]) rfl λ w0=>?_
 refine RN.go 16 [.own 0] λ n1=>RN.app insEOk l [⟨op,n⟩] 0 0 rfl hs (by simp;omega) ?_
 rintro A2 c3 T4 ⟨hs5,hz6⟩
 refine RN.goP 16 [.own 1,.own 1,.nw] [I64 ((((l.length+1):Nat):Int) - 1)] λ _=>RN.ret [] [1,2] [0] (v:=vI ((((l.length+1):Nat):Int) - 1)) (H':=(ap [(tb,.lit [.slice A2 (l.length+1) c3,.map (some m),vI e0,vI e1,vI e2] 103 (0,0)),(m,.obj (smap kv))] [T4])) ?_
 exact ⟨(l++[⟨op,n⟩],A2,c3,T4),by simp [ap],congrArg (Value.int .i64) (by omega),hs5,hz6 hz,by simp,ok.snoc ho hn⟩
theorem jump_any (tb m:Nat) (e0 e1 e2:Int) (kv:List (ByteArray × Value)) (l:List Ins) (A:Option Addr) (c:Nat) (T F:HL) (hs:SlIs insE 136 l A c T) (hz:zeroOff A) (ok:OKc l) (hkv:AllInt kv) (op:Int) (ho:1 <= op /\ op <= 21) (hb:l.length+1 <= 100000000):Sp Tryz.prog 136 #[vP tb 0,vI op] (ap [(tb,.lit [.slice A l.length c,.map (some m),vI e0,vI e1,vI e2] 103 (0,0)),(m,.obj (smap kv))] [T]) F (λ u H'=>∃ x:List Ins × Option Addr × Nat × HL × Nat × Nat,H'=ap ((x.2.2.2.2.1,.lit [vP tb 0] 132 (0,0)) :: (x.2.2.2.2.2,.lit [vI (l.length:Int)] 3 (0,0)) :: trH tb m e0 e1 e2 kv x.1.length x.2.1 x.2.2.1) [x.2.2.2.1] /\ (u=.func (.func 152) #[] #[vP x.2.2.2.2.1 0,vP x.2.2.2.2.2 0] /\ SlIs insE 136 x.1 x.2.1 x.2.2.1 x.2.2.2.1 /\ zeroOff x.2.1 /\ x.1.length=l.length+1 /\ OKc x.1)):=by
 refine Sp.run Tryz.func136 rfl mn (A:=[(tb,.lit [.slice A l.length c,.map (some m),vI e0,vI e1,vI e2] 103 (0,0)),(m,.obj (smap kv))]) (Ts:=[T]) rfl λ w0=>?_
 refine RN.go 10 [.own 0] λ n1=>RN.ct [1,2] [0] (emit_any tb m e0 e1 e2 kv l A c T _ hs hz ok hkv op 0 (by omega) (by intro h;omega) (by omega)) ?_
 rintro _ ⟨l2,A3,c4,T5⟩ ⟨rfl,hs6,hz7,hl8,ok9⟩
 dsimp only at hs6 hz7 hl8 ok9
 refine RN.go 10 [.own 0] λ n10=>RN.ret [] [3,0,1,2] [0] (v:=.func (.func 152) #[] #[vP (n1+0) 0,vP (n10+0) 0]) (H':=(ap [((n1+0),.lit [vP tb 0] 132 (0,0)),((n10+0),.lit [vI (l.length:Int)] 3 (0,0)),(tb,.lit [.slice A3 l2.length c4,.map (some m),vI e0,vI e1,vI e2] 103 (0,0)),(m,.obj (smap kv))] [T5])) ?_
 exact ⟨(l2,A3,c4,T5,(n1+0),(n10+0)),rfl,rfl,hs6,hz7,by assumption,ok9⟩
theorem jset_open (tb m q1 q2 b c k:Nat) (e0 e1 e2:Int) (l rest:List Ins) (F:HL) (hc:(l++rest).length=c) (hk:k < l.length) (ok:OKc l) (h1:(q1,.lit [vP tb 0] 132 (0,0)) ∈ F) (h2:(q2,.lit [vI (k:Int)] 3 (0,0)) ∈ F) (h3:(tb,.lit [vS b 0 l.length c,.map (some m),vI e0,vI e1,vI e2] 103 (0,0)) ∈ F):SpD Tryz.prog 152 #[vP q1 0,vP q2 0] [(b,.rows 2 c (crow (l++rest)) 136 (0,0))] F (λ u H'=>∃ x:List Ins × HL,H'=ap [] [x.2] /\ (SlIs insE 136 x.1 (some ⟨b,0,none⟩) c x.2 /\ x.1.length=l.length /\ OKc x.1)):=by
 have hc2:l.length <= c:=by rw [<- hc,List.length_append];omega
 refine SpD.run Tryz.func152 rfl (mc h1 (mc h2 (mc h3 mn))) (A:=[(b,.rows 2 c (crow (l++rest)) 136 (0,0))]) (Ts:=[]) rfl λ w0=>?_
 refine RN.draw [12] []<|RD.goP [] [0,4,5,1,6,2,7,3,8,9,10,11] [.ro 0,.ro 1,.ro 0,.ro 2,.ro 2,.ix k] [(k:Int)=((k:Nat):Int) /\ k < l.length]<|RD.one 12 (RDO.evP [] [.row 0 k 1] [((0+k * 2)+1)=k * 2+1 /\ k < c] λ _=>?_)
 refine RD.fin<|RN.ret [] [0] [] (v:=.tuple #[]) (H':=(ap [(b,.rows 2 c (updG (crow (l++rest)) k 1 (vI (l.length:Int))) 136 (0,0))] [])) ?_
 have e_:updG (crow (l++rest)) k 1 (vI (l.length:Int))=crow (l.set k ⟨(l.getD k dIns).op,(l.length:Int)⟩++rest):=by
  rw [crow_set (by rw [List.length_append];omega),List.set_append_left _ _ hk]
  simp only [List.getD_eq_getElem?_getD,List.getElem?_append_left hk]
 rw [e_]
 exact ⟨(l.set k ⟨(l.getD k dIns).op,(l.length:Int)⟩,[(b,.rows 2 c (crow (l.set k ⟨(l.getD k dIns).op,(l.length:Int)⟩++rest)) 136 (0,0))]),rfl,SlIs.ofRows (e:=insE) (by rw [List.length_append,List.length_set,<- List.length_append];exact hc),List.length_set ..,ok.setN hk (by omega)⟩
theorem jset_any (tb m q1 q2 c k:Nat) (e0 e1 e2:Int) (l:List Ins) (A:Option Addr) (T F:HL) (hs:SlIs insE 136 l A c T) (hz:zeroOff A) (hk:k < l.length) (ok:OKc l) (h1:(q1,.lit [vP tb 0] 132 (0,0)) ∈ F) (h2:(q2,.lit [vI (k:Int)] 3 (0,0)) ∈ F) (h3:(tb,.lit [.slice A l.length c,.map (some m),vI e0,vI e1,vI e2] 103 (0,0)) ∈ F) :
  SpD Tryz.prog 152 #[vP q1 0,vP q2 0] (ap [] [T]) F (λ u H'=>∃ x:List Ins × HL,H'=ap [] [x.2] /\ (SlIs insE 136 x.1 A c x.2 /\ x.1.length=l.length /\ OKc x.1)):=by
 obtain ⟨b,rest,rfl,rfl,hc⟩:=hs.openL hz (by decide) (by omega)
 exact jset_open tb m q1 q2 b c k e0 e1 e2 l rest F hc hk ok h1 h2 h3
section
variable {r:Option Nat} {P:Program} {N:Nat} {D:List Deferred} {F:HL} {w0:World} {R:HL} {s:Cfg} {Q:Exit -> Act -> World -> Prop}
def cutC (K:Act -> World -> Prop) (s:Cfg):Cfg:=match s with
  | ⟨.code c,k,L,A,Ts⟩=>⟨.code c,.met K :: k,L,A,Ts⟩
  | s=>s
def isCode (s:Cfg):Bool:=match s.c with
  | .code _=>true
  | _=>false
def behC (V:Inv) (s:Cfg):Cfg:=⟨.ex .normal,s.k,V.L,V.A,V.Ts⟩
theorem RN.cut {σ:Type} (V:σ -> Inv)
    (first:(∀ {s':Cfg} {R':HL} (x':σ) (ip jp:List Nat),(V x').I -> (hm:metK s'=some (MV N D F w0 V (λ x'=>(V x').I)):=by kernel_rfl) -> (h:fits (V x') ip jp s'=fitsV (V x'):=by kernel_rfl) -> (hp:permOk ip jp s'=true:=by kernel_rfl) -> RN r P N D F w0 R' s' Q) ->
      RN r P N D F w0 R (cutC (MV N D F w0 V (λ x'=>(V x').I)) s) Q)
    (rest:∀ x,(V x).I -> RN r P N D F w0 R (behC (V x) s) Q) (hc:isCode s=true:=by kernel_rfl):RN r P N D F w0 R s Q:=by
  refine ⟨λ hR a w h1 h2 h3=>?_⟩
  have h4:=(first (λ x' ip jp hi hm h hp=>RN.meet x' ip jp hi hm h hp)).h hR
  obtain ⟨c,k,L,A,Ts⟩:=s
  unfold isCode at hc
  split at hc
  case h_2=>cases hc
  rename_i c' e1
  simp only at e1
  subst e1
  refine wpIn_mono (h4 a w h1 h2 h3) λ e a w q=>?_
  cases e with
  | normal =>
    obtain ⟨x,hI,m1,m2,m3⟩:=q
    exact (rest x hI).h hR a w m1 m2 m3
  | exit id=>exact q
  | goto l=>exact q
  | ret=>exact q
  | panic ch=>exact q
  | outgrown=>exact q
end
end Go.Proofs.YtkhifpbokgabbaaGreatDoor
