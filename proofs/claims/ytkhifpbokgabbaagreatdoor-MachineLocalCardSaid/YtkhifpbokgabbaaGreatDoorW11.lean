import Derived.Test.YtkhifpbokgabbaaGreatDoorW07
import Derived.Test.YtkhifpbokgabbaaGreatDoorW10
set_option maxHeartbeats 4000000
set_option maxRecDepth 100000
set_option linter.unusedSimpArgs false
set_option linter.unusedVariables false
namespace Go.Proofs.YtkhifpbokgabbaaGreatDoor
open Go.RowKit Go.Shelf
section
variable {r:Option Nat} {P:Program} {N:Nat} {D:List Deferred} {F:HL} {w0:World} {R:HL} {s:Cfg} {Q:Exit -> Act -> World -> Prop}
def yldR (P:Program) (n0 N:Nat) (R:HL) (s:Cfg):Option (Option Tmp × Nat × Array Value × List Prop):=match s.c with
  | .ops ops i=>yieldE P n0 N ops.toList i s.L (ap s.A s.Ts) R []
  | _=>none
def yldK (N j:Nat) (s:Cfg) (x:Option (Option Tmp × Nat × Array Value × List Prop)):Option (Nat × Array Value × List Prop × HL):=match x with
  | some (dst,l,args,Ob)=>match s.Ts[j]?,([j]++oth [j] s.Ts.length).isPerm (List.range s.Ts.length) && (putL N dst undef s.L).isSome with
    | some T,true=>some (l,args,Ob,T)
    | _,_=>none
  | none=>none
theorem RN.yield (j:Nat) {l:Nat} {args:Array Value} {T:HL} {Rv:Bool -> HL -> Prop} (hc:YL P l args T (ap s.A (othT [j] s)++F) Rv) (hk:∀ b H',Rv b H' -> RN r P N D F w0 R (rpC j H' (putC N (.bool b) s)) Q)
    (h:∀ n0,yldK N j s (yldR P n0 N R s)=some (l,args,[],T):=by intro n0;kernel_rfl):RN r P N D F w0 R s Q:=by
  refine ⟨λ hR a w hF hRel hB=>?_⟩
  have h':=h w.heap.size
  obtain ⟨cc,k,L,A,Ts⟩:=s
  cases cc with
  | code c=>simp [yldR,yldK] at h'
  | ex c=>simp [yldR,yldK] at h'
  | drw _ _=>simp [yldR,yldK] at h'
  | ops ops i =>
  simp only [yldR] at h' hF hRel
  generalize hx:yieldE P w.heap.size N ops.toList i L (ap A Ts) R []=x at h'
  unfold yldK at h'
  split at h'
  case h_2=>cases h'
  rename_i dst l' args' Ob'
  split at h'
  case h_2=>cases h'
  rename_i T' hj hpp
  simp only [Option.some.injEq,Prod.mk.injEq] at h'
  obtain ⟨e1,e2,e3,e4⟩:=h'
  subst e1;subst e2;subst e3;subst e4
  simp only at hj hpp
  rw [Bool.and_eq_true] at hpp
  have h':=hx
  unfold yieldE at h'
  split at h'
  · cases h'
  rename_i o ho
  split at h'
  case h_2=>cases h'
  rename_i ss hw
  split at h'
  case h_2=>cases h'
  rename_i hok hh he
  split at h'
  case h_2=>cases h'
  rename_i c hop
  split at h'
  case h_2=>cases h'
  rename_i f hcal
  split at h'
  case h_2=>cases h'
  rename_i l2 cap bound hf
  split at h'
  case h_2=>cases h'
  rename_i e1 e2
  simp only [Option.some.injEq,Prod.mk.injEq] at h'
  obtain ⟨d1,d2,d3,d4⟩:=h'
  subst d2
  have hcap:cap=#[]:=by cases cap;simp_all
  have hbnd:bound=#[]:=by cases bound;simp_all
  subst hcap;subst hbnd
  have hdrop:ops.toList.drop i=o :: ops.toList.drop (i+1):=by
    have hlt:i < ops.toList.length:=(List.getElem?_eq_some_iff.1 ho).1
    rw [List.drop_eq_getElem_cons hlt,(List.getElem?_eq_some_iff.1 ho).2]
  show wpListIn _ _ _ _ _ _ _ _
  rw [hdrop,wpListIn]
  have hobs:∀ p ∈ ss.ob,p:=by rw [d4];intro p hp;cases hp
  obtain ⟨c1,c2,c3⟩:=wantL_sound hw hF hobs
  rw [if_pos c1]
  refine ⟨λ _ _=>trivial,?_⟩
  rw [hF.sem hok]
  have hperm:=tail_perm (A:=A) hj hpp.1
  have hR':Rel (T'++(ap A ((oth [j] Ts.length).filterMap (Ts[·]?))++F)) w:=by rw [<- List.append_assoc];exact hRel.perm (hperm.symm.append_right F).symm
  obtain ⟨fn,tmps,assign,body,hy,hround⟩:=hc w hR'
  rw [yield_exec hop hcal hf,d3,hy,Oper.uponIn_round]
  refine ⟨λ h=>(by cases h),RoundIn.mono (show RoundIn (Wr r) (0 - 1) P l2 fn tmps assign body w _ from hround) ?_⟩
  rintro e W' ⟨b,H',rfl,hv,hR2,hB2⟩
  obtain ⟨L',p1⟩:=putL_some hpp.2 (.bool b)
  have hh:=(hk b H' hv).h hR
  have hpc:putC N (.bool b) ⟨.ops ops i,k,L,A,Ts⟩=⟨.ops ops (i+1),k,L',A,Ts⟩:=by
    unfold putC
    rw [<- d1] at p1
    simp only [ho,p1]
  rw [hpc] at hh
  rw [<- d1] at p1
  refine hh _ W' (hF.put p1) (hR2.perm ?_) (hB.trans hB2)
  rw [<- List.append_assoc]
  refine List.Perm.append_right F ?_
  show (A++(H' :: (oth [j] Ts.length).filterMap (Ts[·]?)).flatten).Perm (H'++(A++((oth [j] Ts.length).filterMap (Ts[·]?)).flatten))
  rw [List.flatten_cons,<- List.append_assoc,<- List.append_assoc]
  exact List.Perm.append_right _ List.perm_append_comm
theorem RN.rn {σ:Type} {Ax:σ -> HL} {Tx:σ -> List HL} {I:σ -> Prop} {Ix:Code -> σ -> Prop} (x:σ) (ip jp:List Nat) (hi:I x) (hc:(match s.c,s.k with | .ex .normal,[]=>true | _,_=>false)=true:=by kernel_rfl)
    (hp:permOk ip jp s=true:=by kernel_rfl) (hH:picks ip jp s=(Ax x,Tx x):=by kernel_rfl):RN r P N D F w0 R s (RQ F w0 (λ x=>ap (Ax x) (Tx x)) I Ix):=by
  unfold permOk at hp
  unfold picks at hH
  rw [Bool.and_eq_true] at hp
  simp only [Prod.mk.injEq] at hH
  refine ⟨λ hR a w h1 h2 h3=>?_⟩
  obtain ⟨c,k,L,A,Ts⟩:=s
  split at hc
  case h_2=>cases hc
  rename_i e1 e2
  simp only at e1 e2
  subst e1;subst e2
  exact ⟨x,hi,h2.takeT ip _ jp _ hp.1 hp.2 (by rw [hH.1,hH.2]),h3⟩
theorem RN.rr {σ:Type} {Ax:σ -> HL} {Tx:σ -> List HL} {I:σ -> Prop} {Ix:Code -> σ -> Prop} (x:σ) (ip jp:List Nat) (hi:Ix .ret x) (hc:(match s.c with | .code .ret=>true | _=>false)=true:=by kernel_rfl)
    (hp:permOk ip jp s=true:=by kernel_rfl) (hH:picks ip jp s=(Ax x,Tx x):=by kernel_rfl):RN r P N D F w0 R s (RQ F w0 (λ x=>ap (Ax x) (Tx x)) I Ix):=by
  unfold permOk at hp
  unfold picks at hH
  rw [Bool.and_eq_true] at hp
  simp only [Prod.mk.injEq] at hH
  refine ⟨λ hR a w h1 h2 h3=>?_⟩
  obtain ⟨c,k,L,A,Ts⟩:=s
  split at hc
  case h_2=>cases hc
  rename_i e1
  simp only at e1
  subst e1
  exact wpIn_ret (denK_ret k ⟨x,hi,h2.takeT ip _ jp _ hp.1 hp.2 (by rw [hH.1,hH.2]),h3⟩)
end
section
variable {P:Program} {N:Nat} {D:List Deferred} {F:HL} {w0:World} {R:HL} {s:Cfg} {Q:Exit -> Act -> World -> Prop}
def rngG (s:Cfg):Option (Value × Nat):=match s.c with
  | .code (.rangeFunc g ps _ _)=>match inL s.L g with
    | true=>some (rho s.L g,ps.size)
    | false=>none
  | _=>none
def rngN (N:Nat) (s:Cfg):Bool:=match s.c with
  | .code (.rangeFunc _ ps _ _)=>ps.toList.all λ p=>decide (p < N)
  | _=>false
def asnC (K:Act -> World -> Prop) (vs:List Value) (A:HL) (Ts:List HL) (s:Cfg):Cfg:=match s with
  | ⟨.code (.rangeFunc _ ps assign _),_,L,_,_⟩=>⟨.code assign,[.met K],zipP ps.toList vs L,A,Ts⟩
  | s=>s
def bodC (V:Inv) (s:Cfg):Cfg:=match s with
  | ⟨.code (.rangeFunc _ _ _ body),_,_,_,_⟩=>⟨.code body,[],V.L,V.A,V.Ts⟩
  | s=>s
def donC (c:Fo) (d:Nat) (ip jp:List Nat) (A:HL) (Ts:List HL) (s:Cfg):Cfg:=match s with
  | ⟨_,k,L,A',Ts'⟩=>⟨c,k,L,dblk d :: (A++(oth ip A'.length).filterMap (A'[·]?)),Ts++(oth jp Ts'.length).filterMap (Ts'[·]?)⟩
theorem RN.range {α σ τ:Type} {encs:α -> Array Value} {xs:List α} {gf:FuncId} {lb:Array Value} (eg:∀ args w,(callFunc gf args).run P w=.ok (.enter gf args) w)
    (S:σ -> HL × List HL) (I:Nat -> σ -> Prop) (Ix:Code -> σ -> Prop) (W:τ -> Inv) (Ia:Nat -> α -> τ -> Prop) (x0:σ) (h0:I 0 x0) (ip jp:List Nat)
    (hit:It P gf lb (ap (othA ip s) (othT jp s)++F) encs xs)
    (hassign:∀ (l i:Nat) (x:α) (s1:σ) (Y:HL) (w1:World),xs[i]?=some x -> I i s1 ->
      (∀ {s':Cfg} {R':HL} (t:τ) (ip' jp':List Nat),Ia i x t -> (hm:metK s'=some (MV N [] (Y++(ap (othA ip s) (othT jp s)++F)) w1 W (Ia i x)):=by kernel_rfl) -> (h:fits (W t) ip' jp' s'=fitsV (W t):=by kernel_rfl) -> (hp:permOk ip' jp' s'=true:=by kernel_rfl) -> RN (some l) P N [] (Y++(ap (othA ip s) (othT jp s)++F)) w1 R' s' (λ _ _ _=>False)) ->
      RN (some l) P N [] (Y++(ap (othA ip s) (othT jp s)++F)) w1 (othA ip s++R) (asnC (MV N [] (Y++(ap (othA ip s) (othT jp s)++F)) w1 W (Ia i x)) (encs x).toList (S s1).1 (S s1).2 s) (λ _ _ _=>False))
    (hbody:∀ (l i:Nat) (x:α) (t:τ) (Y:HL) (w1:World),xs[i]?=some x -> Ia i x t -> RN (some l) P N [] (Y++(ap (othA ip s) (othT jp s)++F)) w1 (othA ip s++R) (bodC (W t) s) (RQ (Y++(ap (othA ip s) (othT jp s)++F)) w1 (λ s=>ap (S s).1 (S s).2) (I (i+1)) Ix))
    (hdone:∀ (d:Nat) (s1:σ),I xs.length s1 -> RN none P N (coll d :: D) F w0 R (donC (.ex .normal) d ip jp (S s1).1 (S s1).2 s) Q)
    (hstop:∀ (d:Nat) (c:Code) (s1:σ),Ix c s1 -> RN none P N (coll d :: D) F w0 R (donC (.code c) d ip jp (S s1).1 (S s1).2 s) Q)
    (hpN:rngN N s=true:=by kernel_rfl) (hp:permOk ip jp s=true:=by kernel_rfl) (hH:picks ip jp s=((S x0).1,(S x0).2):=by kernel_rfl) (hG:(rngG s).map (·.1)=some (.func (.func gf) #[] lb):=by kernel_rfl) (hne:∀ x:α,(rngG s).map (·.2)=some (encs x).size:=by intro x;kernel_rfl):RN none P N D F w0 R s Q:=by
  refine ⟨λ hR=>?_⟩
  obtain ⟨c,k,L,A,Ts⟩:=s
  unfold permOk at hp
  unfold picks at hH
  rw [Bool.and_eq_true] at hp
  simp only [Prod.mk.injEq] at hH
  cases c with
  | ops _ _=>simp [rngG] at hG
  | ex _=>simp [rngG] at hG
  | drw _ _=>simp [rngG] at hG
  | code c =>
  cases c with
  | rangeFunc g ps assign body =>
    have hi:inL L g=true:=by
      cases h:inL L g with
      | true=>rfl
      | false=>simp [rngG,h] at hG
    simp only [rngG,hi,Option.map_some,Option.some.injEq] at hG hne
    simp only [rngN] at hpN
    have hRo:∀ (Y:HL),∀ y ∈ othA ip ⟨.code (.rangeFunc g ps assign body),k,L,A,Ts⟩++R,y ∈ Y++(ap (othA ip ⟨.code (.rangeFunc g ps assign body),k,L,A,Ts⟩) (othT jp ⟨.code (.rangeFunc g ps assign body),k,L,A,Ts⟩)++F):=by
      intro Y y hy
      rcases List.mem_append.1 hy with hy | hy
      · exact List.mem_append_right _ (List.mem_append_left _ (List.mem_append_left _ hy))
      · exact List.mem_append_right _ (List.mem_append_right _ (hR y hy))
    exact TR.rangeA (assign:=assign) (body:=body) hi hG eg (λ s=>(S s).1) (λ s=>(S s).2) I Ix (λ t=>(W t).L) (λ t=>ap (W t).A (W t).Ts) Ia (λ x=>(hne x).symm) hpN x0 h0 ip (oth ip A.length) jp (oth jp Ts.length) hp.1 hp.2 _ _ rfl rfl hH.1 hH.2 hit
      (λ l i x s1 Y w1 hx hi=>(hassign l i x s1 Y w1 hx hi (λ t ip' jp' ht hm h hp=>RN.meet t ip' jp' ht hm h hp)).h (hRo Y))
      (λ l i x t Y w1 hx ht=>(hbody l i x t Y w1 hx ht).h (hRo Y))
      (λ d s1 hs=>(hdone d s1 hs).h hR) (λ d c s1 hs=>(hstop d c s1 hs).h hR)
  | _=>simp [rngG] at hG
theorem Sp.runM {f:FuncId} {fn:Func} {c:Code} {args:Array Value} {H:HL} {R':Value -> HL -> Prop} (hf:P.funcs[f]?=some fn) (hb:fn.body=some c) (hR:∀ y ∈ R,y ∈ F) {A:HL} {Ts:List HL} (hH:H=ap A Ts)
    (h:∀ w0,RN none P fn.ntmps [] F w0 R ⟨.code c,[],initL 0 args.toList,A,Ts⟩ (bodyPostM (Wr none) 0 P fn (SpR F w0 R'))) (ha:decide (args.size <= fn.ntmps)=true:=by kernel_rfl):Sp P f args H F R':=by
  subst hH
  exact Sp.of_bodyM hf hb rfl ha _ rfl λ w0=>(h w0).h hR
def dropC (dx:List Nat) (s:Cfg):Cfg:=match s with
  | ⟨c,k,L,A,Ts⟩=>⟨c,k,L,(oth dx A.length).filterMap (A[·]?),Ts⟩
theorem RN.retMO {fn:Func} {R':Value -> HL -> Prop} (ds dx:List Nat) (hints:List Hint) (Ob:List Prop) (hob:AllP Ob) (ip jp:List Nat) {v:Value} {H':HL} (hv:R' v H')
    (hD:D=ds.map coll:=by rfl) (hc:isDone s=true:=by kernel_rfl) (hd:((dx++oth dx s.A.length).isPerm (List.range s.A.length),dx.filterMap (s.A[·]?))=(true,ds.map dblk):=by kernel_rfl)
    (h:∀ n0,retV P n0 fn.results.toList R hints (dropC dx s)=some (v,resX (retV P 0 fn.results.toList R hints (dropC dx s)),resX (retV P 0 fn.results.toList R hints (dropC dx s)),Ob):=by intro n0;kernel_rfl)
    (hp:permOk ip jp (dropC dx s)=true:=by kernel_rfl) (hH:ap (picks ip jp (dropC dx s)).1 (picks ip jp (dropC dx s)).2=H':=by kernel_rfl):RN none P N D F w0 R s (bodyPostM (Wr none) 0 P fn (SpR F w0 R')):=by
  unfold permOk at hp
  unfold picks at hH
  simp only [Prod.mk.injEq] at hd
  rw [Bool.and_eq_true] at hp
  obtain ⟨c,k,L,A,Ts⟩:=s
  refine ⟨λ hR a w hF hRel hB=>?_⟩
  have key:LeavesInM (Wr none) 0 P fn a.tmps (SpR F w0 R') a.defers .returning w:=by
    exact Go.Proofs.YtkhifpbokgabbaaGreatDoor.retM (by simp) ds hD dx (oth dx A.length) R hints v _ Ob hd.1 hd.2 rfl h hR hob ip _ jp _ H' hp.1 hp.2 hH hv a w hF hRel hB
  exact isDone_wf hc key key
theorem RN.retM {fn:Func} {R':Value -> HL -> Prop} (ds dx:List Nat) (hints:List Hint) (ip jp:List Nat) {v:Value} {H':HL} (hv:R' v H')
    (hD:D=ds.map coll:=by rfl) (hc:isDone s=true:=by kernel_rfl) (hd:((dx++oth dx s.A.length).isPerm (List.range s.A.length),dx.filterMap (s.A[·]?))=(true,ds.map dblk):=by kernel_rfl)
    (h:∀ n0,retV P n0 fn.results.toList R hints (dropC dx s)=some (v,resX (retV P 0 fn.results.toList R hints (dropC dx s)),resX (retV P 0 fn.results.toList R hints (dropC dx s)),[]):=by intro n0;kernel_rfl)
    (hp:permOk ip jp (dropC dx s)=true:=by kernel_rfl) (hH:ap (picks ip jp (dropC dx s)).1 (picks ip jp (dropC dx s)).2=H':=by kernel_rfl):RN none P N D F w0 R s (bodyPostM (Wr none) 0 P fn (SpR F w0 R')):=RN.retMO ds dx hints [] trivial ip jp hv hD hc hd h hp hH
end
theorem ShIn.up {F X:HL} {s:Shp} (h:ShIn F s):ShIn (X++F) s:=h.mono λ x hx=>List.mem_append_right _ hx
def isZ (a:V2):Prop:=((decide (a.x=0) && (decide (a.y=0) && true)))=true
instance (a:V2):Decidable (isZ a):=inferInstanceAs (Decidable (_=true))
def unitV (a:V2):V2:=if isZ (vnorm a) then ⟨1024,0⟩ else vnorm a
def projF (pos ax:V2) (l:List V2):Nat -> Int × Int
 | 0=>(0,0)
 | k+1=>if (k:Int)=0 then (if vdot (vadd pos (l.getD k ⟨0,0⟩)) ax < vdot (vadd pos (l.getD k ⟨0,0⟩)) ax then vdot (vadd pos (l.getD k ⟨0,0⟩)) ax else vdot (vadd pos (l.getD k ⟨0,0⟩)) ax,if vdot (vadd pos (l.getD k ⟨0,0⟩)) ax > vdot (vadd pos (l.getD k ⟨0,0⟩)) ax then vdot (vadd pos (l.getD k ⟨0,0⟩)) ax else vdot (vadd pos (l.getD k ⟨0,0⟩)) ax)
  else (if vdot (vadd pos (l.getD k ⟨0,0⟩)) ax < (projF pos ax l k).1 then vdot (vadd pos (l.getD k ⟨0,0⟩)) ax else (projF pos ax l k).1,if vdot (vadd pos (l.getD k ⟨0,0⟩)) ax > (projF pos ax l k).2 then vdot (vadd pos (l.getD k ⟨0,0⟩)) ax else (projF pos ax l k).2)
def projS (s:Shp) (pos ax:V2):Int × Int:=if circ s then (w64 (vdot pos ax - s.r),w64 (vdot pos ax+s.r)) else projF pos ax s.poly s.poly.length
def depthS (a:Shp) (pa:V2) (b:Shp) (pb ax:V2):Int:=w64 ((if (projS b pb ax).2 < (projS a pa ax).2 then (projS b pb ax).2 else (projS a pa ax).2) - (if (projS b pb ax).1 > (projS a pa ax).1 then (projS b pb ax).1 else (projS a pa ax).1))
def sqd (off v:V2):Int:=w64 (w64 ((vadd off v).x * (vadd off v).x)+w64 ((vadd off v).y * (vadd off v).y))
def leastF (off:V2) (l:List V2):Nat -> V2 × Int
 | 0=>(l.getD 0 ⟨0,0⟩,sqd off (l.getD 0 ⟨0,0⟩))
 | k+1=>if sqd off (l.getD (1+k) ⟨0,0⟩) < (leastF off l k).2 then (l.getD (1+k) ⟨0,0⟩,sqd off (l.getD (1+k) ⟨0,0⟩)) else leastF off l k
def toVert (c:V2) (s:Shp) (pos:V2):V2:=vadd (vsub pos c) (leastF (vsub pos c) s.poly (s.poly.length - 1)).1
theorem unit_any (a:V2)  (F:HL):Sp Tryz.prog 145 #[.agg #[vI a.x,vI a.y]] [] F (λ u H'=>u=.agg #[vI ((unitV a).x),vI ((unitV a).y)] /\ H'=[]):=by
 refine Sp.run Tryz.func145 rfl mn (A:=[]) (Ts:=[]) rfl λ w0=>?_
 refine RN.go 10 [.own 1,.own 1] λ n1=>RN.cp (vnorm_any a  _)<|RN.go 11 [.own 0,.own 0,.own 0,.own 0,.sq] λ n2=>RN.eB ((decide ((vnorm a).x=0) && (decide ((vnorm a).y=0) && true))) 8 (λ h3=>?_) λ h3=>?_
 ·refine RN.go 9 [.own 1,.own 1] λ _=>RN.ret [.own 1,.own 1] [] [] (v:=.agg #[vI 1024,vI 0]) (H':=[]) ?_
  refine ⟨?_,rfl⟩
  first | rw [show unitV a=⟨1024,0⟩ from if_pos (by assumption)] | rw [show unitV a=vnorm a from if_neg (by assumption)]
 ·refine RN.go 7 [.own 0,.own 0,.own 1,.own 1] λ _=>RN.ret [.own 1,.own 1] [] [] (v:=.agg #[vI ((vnorm a).x),vI ((vnorm a).y)]) (H':=[]) ?_
  refine ⟨?_,rfl⟩
  first | rw [show unitV a=⟨1024,0⟩ from if_pos (by assumption)] | rw [show unitV a=vnorm a from if_neg (by assumption)]
theorem proj_circle (r:Int) (A:Option Addr) (cap:Nat) (pos ax:V2) (F:HL):Sp Tryz.prog 148 #[.agg #[vI r,.slice A 0 cap],.agg #[vI pos.x,vI pos.y],.agg #[vI ax.x,vI ax.y]] [] F (λ u H'=>u=.tuple #[vI (projS ⟨r,[],A,cap⟩ pos ax).1,vI (projS ⟨r,[],A,cap⟩ pos ax).2] /\ H'=[]):=by
 refine Sp.run Tryz.func148 rfl mn (A:=[]) (Ts:=[]) rfl λ w0=>?_
 refine RN.go 13 [.own 2,.own 2] λ n1=>RN.cp (sc_any r A 0 cap _)<|RN.go 7 [.own 1,.own 1,.own 0,.own 0] λ _=>RN.cp (vdot_any pos ax  _)<|RN.go 4 [] λ _=>RN.draw [] []<|RD.go [] [0,1,4,5,2,6,3,7,8,9] [.own 2,.own 2]<|RD.fin<|RN.go 1 [] λ _=>?_
 exact RN.ret [] [] [] ⟨rfl,rfl⟩
theorem proj_poly (r:Int) (l:List V2) (b cap:Nat) (pos ax:V2) (F:HL) (hb:(b,.rows 2 cap (vrow l) 29 (0,0)) ∈ F) (hl3:3 <= l.length) (h4:l.length <= cap) (h5:l.length <= 1000000):Sp Tryz.prog 148 #[.agg #[vI r,vS b 0 l.length cap],.agg #[vI pos.x,vI pos.y],.agg #[vI ax.x,vI ax.y]] [] F (λ u H'=>u=.tuple #[vI (projS ⟨r,l,some ⟨b,0,none⟩,cap⟩ pos ax).1,vI (projS ⟨r,l,some ⟨b,0,none⟩,cap⟩ pos ax).2] /\ H'=[]):=by
 refine Sp.run Tryz.func148 rfl (mc hb mn) (A:=[]) (Ts:=[]) rfl λ w0=>?_
 refine RN.go 13 [.own 2,.own 2] λ n1=>RN.cp (sc_any r (some ⟨b,0,none⟩) l.length cap _)<|RN.go 2 [] λ _=>RN.fx 13 (decide_eq_false (show ¬ ((l.length:Int)=0) by omega))<|RN.go 13 [.own 2] λ _=>RN.loop (σ:=Nat) (λ k=>⟨[(4,vP (n1+1) 0),(5,vP (n1+2) 0),(6,vI ((projF pos ax l k).1)),(7,vI ((projF pos ax l k).2)),(26,vS b 0 l.length cap),(27,vI (l.length:Int)),(28,vI (k:Int))],[((n1+2),.lit [vI ax.x,vI ax.y] 29 (0,0)),((n1+1),.lit [vI pos.x,vI pos.y] 29 (0,0)),((n1+0),.lit [vI r,vS b 0 l.length cap] 59 (0,0))],[],k <= l.length,l.length - k⟩) 0 [0,1,2] [] (Nat.zero_le _) ?_
 rintro k hI2 mt3
 refine RN.go 6 [] λ _=>RN.em ((k:Int) < (l.length:Int)) 29 (λ h4=>?_) λ h4=>?_
 ·refine RN.goP 16 [.ix k,.rorow 0 k 0,.rorow 0 k 1,.own 0,.own 0] [((0+k * 2)+1)=k * 2+1 /\ k < cap,(0+k * 2)=k * 2+0 /\ k < cap,(k:Int)=((k:Nat):Int) /\ k < l.length] λ n5=>RN.draw [] []<|RD.go [] [0,1,3] [.own 2,.own 2,.own 0,.own 0,.own 1,.own 1]<|RD.cp [] 2 (λ X_=>(vadd_any pos (l.getD k ⟨0,0⟩)  _))<|RD.cp [] 4 (λ X_=>(vdot_any (vadd pos (l.getD k ⟨0,0⟩)) ax  _))<|RD.go [] [5] []<|RD.fin<|RN.go 8 [] λ _=>RN.em ((k:Int)=0) 39 (λ h6=>?_) λ h6=>?_
  ·refine RN.goP 24 [.nw] [I64 ((k:Int)+1)] λ _=>?_
   have e_:projF pos ax l (k+1)=(if vdot (vadd pos (l.getD k ⟨0,0⟩)) ax < vdot (vadd pos (l.getD k ⟨0,0⟩)) ax then vdot (vadd pos (l.getD k ⟨0,0⟩)) ax else vdot (vadd pos (l.getD k ⟨0,0⟩)) ax,if vdot (vadd pos (l.getD k ⟨0,0⟩)) ax > vdot (vadd pos (l.getD k ⟨0,0⟩)) ax then vdot (vadd pos (l.getD k ⟨0,0⟩)) ax else vdot (vadd pos (l.getD k ⟨0,0⟩)) ax):=by
    rw [projF,if_pos h6]
   refine RN.sv 6 (congrArg (λ v_=>(vI v_:Value)) (congrArg Prod.fst e_).symm)<|RN.sv 7 (congrArg (λ v_=>(vI v_:Value)) (congrArg Prod.snd e_).symm) ?_
   refine mt3 (k+1) [1,2,3] [] ?_
   try dsimp only
   exact ⟨by omega,by omega⟩
  ·refine RN.goP 19 [.nw] [I64 ((k:Int)+1)] λ _=>?_
   have e_:projF pos ax l (k+1)=(if vdot (vadd pos (l.getD k ⟨0,0⟩)) ax < (projF pos ax l k).1 then vdot (vadd pos (l.getD k ⟨0,0⟩)) ax else (projF pos ax l k).1,if vdot (vadd pos (l.getD k ⟨0,0⟩)) ax > (projF pos ax l k).2 then vdot (vadd pos (l.getD k ⟨0,0⟩)) ax else (projF pos ax l k).2):=by
    rw [projF,if_neg h6]
   refine RN.sv 6 (congrArg (λ v_=>(vI v_:Value)) (congrArg Prod.fst e_).symm)<|RN.sv 7 (congrArg (λ v_=>(vI v_:Value)) (congrArg Prod.snd e_).symm) ?_
   refine mt3 (k+1) [1,2,3] [] ?_
   try dsimp only
   exact ⟨by omega,by omega⟩
 ·refine RN.go 14 [] λ _=>RN.ret [] [] [] (v:=.tuple #[vI ((projF pos ax l k).1),vI ((projF pos ax l k).2)]) (H':=[]) ?_
  have ek:k=l.length:=by omega
  subst ek
  refine ⟨?_,rfl⟩
  unfold projS
  rw [if_neg (by intro e;simp [circ] at e;rw [e] at hl3;simp at hl3)]
theorem proj_any (s:Shp) (pos ax:V2) (F:HL) (h:ShIn F s):Sp Tryz.prog 148 #[shV s,.agg #[vI pos.x,vI pos.y],.agg #[vI ax.x,vI ax.y]] [] F (λ u H'=>u=.tuple #[vI (projS s pos ax).1,vI (projS s pos ax).2] /\ H'=[]):=by
 cases h with
 | circle r A cap=>exact proj_circle r A cap pos ax F
 | poly r l b cap h h3 h4 h5=>exact proj_poly r l b cap pos ax F h h3 h4 h5
theorem depth_any (a:Shp) (pa:V2) (b:Shp) (pb ax:V2) (F:HL) (ha:ShIn F a) (hb:ShIn F b):Sp Tryz.prog 121 #[.agg #[vI a.r,.slice a.A a.poly.length a.cap],.agg #[vI pa.x,vI pa.y],.agg #[vI b.r,.slice b.A b.poly.length b.cap],.agg #[vI pb.x,vI pb.y],.agg #[vI ax.x,vI ax.y]] [] F (λ u H'=>u=vI (depthS a pa b pb ax) /\ H'=[]):=by
 refine Sp.run Tryz.func121 rfl mn (A:=[]) (Ts:=[]) rfl λ w0=>?_
 refine RN.go 15 [.own 4,.own 4,.own 3,.own 3,.own 0,.own 0] λ n1=>RN.cp (proj_any a pa ax _ (ha.up))<|RN.go 12 [.own 2,.own 2,.own 1,.own 1,.own 0,.own 0] λ _=>RN.cp (proj_any b pb ax _ (hb.up))<|RN.go 19 [] λ _=>?_
 exact RN.ret [] [] [] ⟨rfl,rfl⟩
theorem sqd_any (v off:V2) (q:Nat) (F:HL) (hq:(q,.lit [vI off.x,vI off.y] 29 (0,0)) ∈ F):Sp Tryz.prog 180 #[.agg #[vI v.x,vI v.y],vP q 0] [] F (λ u H'=>u=vI (sqd off v) /\ H'=[]):=by
 refine Sp.run Tryz.func180 rfl (mc hq mn) (A:=[]) (Ts:=[]) rfl λ w0=>?_
 refine RN.go 10 [.ro 0,.ro 0,.own 0,.own 0] λ n1=>RN.cp (vadd_any off v  _)<|RN.go 20 (ow 0 6) λ n2=>?_
 exact RN.ret [] [] [] ⟨rfl,rfl⟩
theorem least_any (l:List V2) (b cap:Nat) (off:V2) (q:Nat) (F:HL) (hb:(b,.rows 2 cap (vrow l) 29 (0,0)) ∈ F) (h3:3 <= l.length) (h4:l.length <= cap) (h5:l.length <= 1000000) (hq:(q,.lit [vI off.x,vI off.y] 29 (0,0)) ∈ F):Sp Tryz.prog 179 #[vS b 0 l.length cap,.func (.func 180) #[] #[vP q 0]] [] F (λ u H'=>u=.agg #[vI (((leastF off l (l.length - 1)).1).x),vI (((leastF off l (l.length - 1)).1).y)] /\ H'=[]):=by
 refine Sp.run Tryz.func179 rfl (mc hb (mc hq mn)) (A:=[]) (Ts:=[]) rfl λ w0=>?_
 refine RN.go 6 [] λ n1=>RN.draw [9] [0]<|RD.goP [0] [0,3,4,1,5,2,6] [.ix 0,.ix 0,.rorow 0 0 0,.rorow 0 0 1,.rorow 0 0 0,.rorow 0 0 1] [((0+0 * 2)+1)=0 * 2+1 /\ 0 < cap,(0+0 * 2)=0 * 2+0 /\ 0 < cap,((0+0 * 2)+1)=0 * 2+1 /\ 0 < cap,(0+0 * 2)=0 * 2+0 /\ 0 < cap,0=((0:Nat):Int) /\ 0 < l.length,0=((0:Nat):Int) /\ 0 < l.length]<|RD.cp [0] 7 (λ X_=>(sqd_any (l.getD 0 ⟨0,0⟩) off q _ (List.mem_append_right _ (List.mem_append_right _ hq))))<|RD.one 8 (RDO.ev [] [] λ n3=>?_)
 refine RD.one 9 (RDO.ev [1] [.own 0,.own 0] λ _=>?_)
 refine RD.go [1] [10] []<|RD.fin<|RN.goP 11 [.sl 1 l.length false] [1=((1:Nat):Int) /\ l.length=l.length /\ 1 <= l.length /\ l.length <= cap /\ cap ≠ 1] λ _=>RN.loop (σ:=Nat) (λ k=>⟨[(1,.func (.func 180) #[] #[vP q 0]),(4,vP (n1+0) 0),(5,vP (n3+0) 0),(6,vI ((leastF off l k).2)),(19,vS b 2 (l.length - 1) (cap - 1)),(20,vI (((l.length - 1):Nat):Int)),(21,vI (k:Int))],[((n3+0),.lit [vI ((leastF off l k).1.x),vI ((leastF off l k).1.y)] 29 (0,0)),((n1+0),.lit [vI 0,vI 0] 29 (0,0))],[],k <= l.length - 1,l.length - k⟩) 0 [0,1] [] (Nat.zero_le _) ?_
 rintro k hI4 mt5
 refine RN.go 6 [] λ _=>RN.em ((k:Int) < (((l.length - 1):Nat):Int)) 22 (λ h6=>?_) λ h6=>?_
 ·refine RN.goP 17 [.ix k,.rorow 0 (1+k) 0,.rorow 0 (1+k) 1,.own 0,.own 0,.own 0,.own 0] [((2+k * 2)+1)=(1+k) * 2+1 /\ (1+k) < cap,(2+k * 2)=(1+k) * 2+0 /\ (1+k) < cap,(k:Int)=((k:Nat):Int) /\ k < (l.length - 1)] λ n7=>RN.cp (sqd_any (l.getD (1+k) ⟨0,0⟩) off q _ (List.mem_append_right _ hq))<|RN.go 10 [] λ _=>RN.em (sqd off (l.getD (1+k) ⟨0,0⟩) < (leastF off l k).2) 30 (λ h8=>?_) λ h8=>?_
  ·refine RN.goP 13 [.own 0,.own 0,.own 1,.own 1,.nw] [I64 ((k:Int)+1)] λ _=>?_
   have e_:leastF off l (k+1)=(l.getD (1+k) ⟨0,0⟩,sqd off (l.getD (1+k) ⟨0,0⟩)):=by rw [leastF,if_pos h8]
   refine RN.sv 6 (congrArg (λ v_=>(vI v_:Value)) (congrArg Prod.snd e_).symm)<|RN.bv 1 (congrArg (λ v_=>(.lit [vI v_.1.x,vI v_.1.y] 29 (0,0):Blk)) e_.symm) ?_
   refine mt5 (k+1) [1,2] [] ?_
   try dsimp only
   exact ⟨by omega,by omega⟩
  ·refine RN.goP 8 [.nw] [I64 ((k:Int)+1)] λ _=>?_
   have e_:leastF off l (k+1)=leastF off l k:=by rw [leastF,if_neg h8]
   refine RN.sv 6 (congrArg (λ v_=>(vI v_:Value)) (congrArg Prod.snd e_).symm)<|RN.bv 1 (congrArg (λ v_=>(.lit [vI v_.1.x,vI v_.1.y] 29 (0,0):Blk)) e_.symm) ?_
   refine mt5 (k+1) [1,2] [] ?_
   try dsimp only
   exact ⟨by omega,by omega⟩
 ·refine RN.go 12 [.own 0,.own 0,.own 1,.own 1] λ _=>RN.ret [.own 1,.own 1] [] [] (v:=.agg #[vI ((leastF off l k).1.x),vI ((leastF off l k).1.y)]) (H':=[]) ?_
  have ek:k=l.length - 1:=by omega
  subst ek
  exact ⟨rfl,rfl⟩
end Go.Proofs.YtkhifpbokgabbaaGreatDoor
