import Derived.Test.YtgdcbiiopbpgaaaGreatDoorY08
import Derived.Test.YtgdcbiiopbpgaaaGreatDoorY10
set_option maxHeartbeats 4000000
set_option maxRecDepth 100000
set_option linter.unusedSimpArgs false
set_option linter.unusedVariables false
namespace Go.Proofs.YtgdcbiiopbpgaaaGreatDoor
open Go.RowKit Go.Shelf
section
variable {r:Option Nat} {P:Program} {N:Nat} {D:List Deferred} {F:HL} {w0:World} {R:HL} {s:Cfg} {Q:Exit -> Act -> World -> Prop}
def DE (P:Program) (n0 N:Nat) (R:HL) (s:Cfg):Option (Option Tmp × Nat × Array Value × List Prop):=match s.c with
 | .ops ops i=>xL P n0 N ops.toList i s.L (ap s.A s.Ts) R []
 | _=>none
def DF (N j:Nat) (s:Cfg) (x:Option (Option Tmp × Nat × Array Value × List Prop)):Option (Nat × Array Value × List Prop × HL):=match x with
 | some (dst,l,args,Ob)=>match s.Ts[j]?,([j]++oth [j] s.Ts.length).isPerm (List.range s.Ts.length) && (fe N dst undef s.L).isSome with
  | some T,true=>some (l,args,Ob,T)
  | _,_=>none
 | none=>none
theorem RN.yield (j:Nat) {l:Nat} {args:Array Value} {T:HL} {Rv:Bool -> HL -> Prop} (hc:YL P l args T (ap s.A (fD [j] s)++F) Rv) (hk:∀ b H',Rv b H' -> RN r P N D F w0 R (LP j H' (fO N (.bool b) s)) Q)
  (h:∀ n0,DF N j s (DE P n0 N R s)=some (l,args,[],T):=by intro n0;kernel_rfl):RN r P N D F w0 R s Q:=by
 refine ⟨λ hR a w hF hRel hB=>?_⟩
 have h':=h w.heap.size
 obtain ⟨cc,k,L,A,Ts⟩:=s
 cases cc with
 | code c=>simp [DE,DF] at h'
 | ex c=>simp [DE,DF] at h'
 | drw _ _=>simp [DE,DF] at h'
 | ops ops i =>
 simp only [DE] at h' hF hRel
 generalize hx:xL P w.heap.size N ops.toList i L (ap A Ts) R []=x at h'
 unfold DF at h'
 split at h'
 case h_2=>cases h'
 rename_i dst l' args' Ob'
 split at h'
 case h_2=>cases h'
 rename_i T' hj hpp
 simp only [Option.some.injEq,Prod.mk.injEq] at h'
 obtain ⟨e1,e2,e3,e4⟩:=h'
 subst e1;subst e2;subst e3;subst e4
 simp only at hj hpp
 rw [Bool.and_eq_true] at hpp
 have h':=hx
 unfold xL at h'
 split at h'
 ·cases h'
 rename_i o ho
 split at h'
 case h_2=>cases h'
 rename_i ss hw
 split at h'
 case h_2=>cases h'
 rename_i hok hh he
 split at h'
 case h_2=>cases h'
 rename_i c hop
 split at h'
 case h_2=>cases h'
 rename_i f hcal
 split at h'
 case h_2=>cases h'
 rename_i l2 cap bound hf
 split at h'
 case h_2=>cases h'
 rename_i e1 e2
 simp only [Option.some.injEq,Prod.mk.injEq] at h'
 obtain ⟨d1,d2,d3,d4⟩:=h'
 subst d2
 have hcap:cap=#[]:=by cases cap;simp_all
 have hbnd:bound=#[]:=by cases bound;simp_all
 subst hcap;subst hbnd
 have hdrop:ops.toList.drop i=o :: ops.toList.drop (i+1):=by
  have hlt:i < ops.toList.length:=(List.getElem?_eq_some_iff.1 ho).1
  rw [List.drop_eq_getElem_cons hlt,(List.getElem?_eq_some_iff.1 ho).2]
 show wpListIn _ _ _ _ _ _ _ _
 rw [hdrop,wpListIn]
 have hobs:∀ p ∈ ss.ob,p:=by rw [d4];intro p hp;cases hp
 obtain ⟨c1,c2,c3⟩:=cg hw hF hobs
 rw [if_pos c1]
 refine ⟨λ _ _=>trivial,?_⟩
 rw [hF.sem hok]
 have hperm:=gZ (A:=A) hj hpp.1
 have hR':Rel (T'++(ap A ((oth [j] Ts.length).filterMap (Ts[·]?))++F)) w:=by rw [<- List.append_assoc];exact hRel.perm (hperm.symm.append_right F).symm
 obtain ⟨fn,tmps,assign,body,hy,hround⟩:=hc w hR'
 rw [xM hop hcal hf,d3,hy,Oper.uponIn_round]
 refine ⟨λ h=>(by cases h),RoundIn.mono (show RoundIn (Wr r) (0 - 1) P l2 fn tmps assign body w _ from hround) ?_⟩
 rintro e W' ⟨b,H',rfl,hv,hR2,hB2⟩
 obtain ⟨L',p1⟩:=eU hpp.2 (.bool b)
 have hh:=(hk b H' hv).h hR
 have hpc:fO N (.bool b) ⟨.ops ops i,k,L,A,Ts⟩=⟨.ops ops (i+1),k,L',A,Ts⟩:=by
  unfold fO
  rw [<- d1] at p1
  simp only [ho,p1]
 rw [hpc] at hh
 rw [<- d1] at p1
 refine hh _ W' (hF.put p1) (hR2.perm ?_) (hB.trans hB2)
 rw [<- List.append_assoc]
 refine List.Perm.append_right F ?_
 show (A++(H' :: (oth [j] Ts.length).filterMap (Ts[·]?)).flatten).Perm (H'++(A++((oth [j] Ts.length).filterMap (Ts[·]?)).flatten))
 rw [List.flatten_cons,<- List.append_assoc,<- List.append_assoc]
 exact List.Perm.append_right _ List.perm_append_comm
theorem RN.rn {σ:Type} {Ax:σ -> HL} {Tx:σ -> List HL} {I:σ -> Prop} {Ix:Code -> σ -> Prop} (x:σ) (ip jp:List Nat) (hi:I x) (hc:(match s.c,s.k with | .ex .normal,[]=>true | _,_=>false)=true:=by kernel_rfl)
  (hp:b9 ip jp s=true:=by kernel_rfl) (hH:picks ip jp s=(Ax x,Tx x):=by kernel_rfl):RN r P N D F w0 R s (RQ F w0 (λ x=>ap (Ax x) (Tx x)) I Ix):=by
 unfold b9 at hp
 unfold picks at hH
 rw [Bool.and_eq_true] at hp
 simp only [Prod.mk.injEq] at hH
 refine ⟨λ hR a w h1 h2 h3=>?_⟩
 obtain ⟨c,k,L,A,Ts⟩:=s
 split at hc
 case h_2=>cases hc
 rename_i e1 e2
 simp only at e1 e2
 subst e1;subst e2
 exact ⟨x,hi,h2.takeT ip _ jp _ hp.1 hp.2 (by rw [hH.1,hH.2]),h3⟩
theorem RN.rr {σ:Type} {Ax:σ -> HL} {Tx:σ -> List HL} {I:σ -> Prop} {Ix:Code -> σ -> Prop} (x:σ) (ip jp:List Nat) (hi:Ix .ret x) (hc:(match s.c with | .code .ret=>true | _=>false)=true:=by kernel_rfl)
  (hp:b9 ip jp s=true:=by kernel_rfl) (hH:picks ip jp s=(Ax x,Tx x):=by kernel_rfl):RN r P N D F w0 R s (RQ F w0 (λ x=>ap (Ax x) (Tx x)) I Ix):=by
 unfold b9 at hp
 unfold picks at hH
 rw [Bool.and_eq_true] at hp
 simp only [Prod.mk.injEq] at hH
 refine ⟨λ hR a w h1 h2 h3=>?_⟩
 obtain ⟨c,k,L,A,Ts⟩:=s
 split at hc
 case h_2=>cases hc
 rename_i e1
 simp only at e1
 subst e1
 exact wpIn_ret (iq k ⟨x,hi,h2.takeT ip _ jp _ hp.1 hp.2 (by rw [hH.1,hH.2]),h3⟩)
end
section
variable {P:Program} {N:Nat} {D:List Deferred} {F:HL} {w0:World} {R:HL} {s:Cfg} {Q:Exit -> Act -> World -> Prop}
def lN (s:Cfg):Option (Value × Nat):=match s.c with
 | .code (.rangeFunc g ps _ _)=>match mO s.L g with
  | true=>some (jd s.L g,ps.size)
  | false=>none
 | _=>none
def HE (N:Nat) (s:Cfg):Bool:=match s.c with
 | .code (.rangeFunc _ ps _ _)=>ps.toList.all λ p=>decide (p < N)
 | _=>false
def Ma (K:Act -> World -> Prop) (vs:List Value) (A:HL) (Ts:List HL) (s:Cfg):Cfg:=match s with
 | ⟨.code (.rangeFunc _ ps assign _),_,L,_,_⟩=>⟨.code assign,[.met K],pm ps.toList vs L,A,Ts⟩
 | s=>s
def Mb (V:Inv) (s:Cfg):Cfg:=match s with
 | ⟨.code (.rangeFunc _ _ _ body),_,_,_,_⟩=>⟨.code body,[],V.L,V.A,V.Ts⟩
 | s=>s
def Mc (c:Fo) (d:Nat) (ip jp:List Nat) (A:HL) (Ts:List HL) (s:Cfg):Cfg:=match s with
 | ⟨_,k,L,A',Ts'⟩=>⟨c,k,L,cm d :: (A++(oth ip A'.length).filterMap (A'[·]?)),Ts++(oth jp Ts'.length).filterMap (Ts'[·]?)⟩
theorem RN.range {α σ τ:Type} {encs:α -> Array Value} {xs:List α} {gf:FuncId} {lb:Array Value} (eg:∀ args w,(callFunc gf args).run P w=.ok (.enter gf args) w)
  (S:σ -> HL × List HL) (I:Nat -> σ -> Prop) (Ix:Code -> σ -> Prop) (W:τ -> Inv) (Ia:Nat -> α -> τ -> Prop) (x0:σ) (h0:I 0 x0) (ip jp:List Nat)
  (hit:It P gf lb (ap (eJ ip s) (fD jp s)++F) encs xs)
  (hassign:∀ (l i:Nat) (x:α) (s1:σ) (Y:HL) (w1:World),xs[i]?=some x -> I i s1 ->
   (∀ {s':Cfg} {R':HL} (t:τ) (ip' jp':List Nat),Ia i x t -> (hm:Dp s'=some (MV N [] (Y++(ap (eJ ip s) (fD jp s)++F)) w1 W (Ia i x)):=by kernel_rfl) -> (h:uU (W t) ip' jp' s'=oU (W t):=by kernel_rfl) -> (hp:b9 ip' jp' s'=true:=by kernel_rfl) -> RN (some l) P N [] (Y++(ap (eJ ip s) (fD jp s)++F)) w1 R' s' (λ _ _ _=>False)) ->
   RN (some l) P N [] (Y++(ap (eJ ip s) (fD jp s)++F)) w1 (eJ ip s++R) (Ma (MV N [] (Y++(ap (eJ ip s) (fD jp s)++F)) w1 W (Ia i x)) (encs x).toList (S s1).1 (S s1).2 s) (λ _ _ _=>False))
  (hbody:∀ (l i:Nat) (x:α) (t:τ) (Y:HL) (w1:World),xs[i]?=some x -> Ia i x t -> RN (some l) P N [] (Y++(ap (eJ ip s) (fD jp s)++F)) w1 (eJ ip s++R) (Mb (W t) s) (RQ (Y++(ap (eJ ip s) (fD jp s)++F)) w1 (λ s=>ap (S s).1 (S s).2) (I (i+1)) Ix))
  (hdone:∀ (d:Nat) (s1:σ),I xs.length s1 -> RN none P N (coll d :: D) F w0 R (Mc (.ex .normal) d ip jp (S s1).1 (S s1).2 s) Q)
  (hstop:∀ (d:Nat) (c:Code) (s1:σ),Ix c s1 -> RN none P N (coll d :: D) F w0 R (Mc (.code c) d ip jp (S s1).1 (S s1).2 s) Q)
  (hpN:HE N s=true:=by kernel_rfl) (hp:b9 ip jp s=true:=by kernel_rfl) (hH:picks ip jp s=((S x0).1,(S x0).2):=by kernel_rfl) (hG:(lN s).map (·.1)=some (.func (.func gf) #[] lb):=by kernel_rfl) (hne:∀ x:α,(lN s).map (·.2)=some (encs x).size:=by intro x;kernel_rfl):RN none P N D F w0 R s Q:=by
 refine ⟨λ hR=>?_⟩
 obtain ⟨c,k,L,A,Ts⟩:=s
 unfold b9 at hp
 unfold picks at hH
 rw [Bool.and_eq_true] at hp
 simp only [Prod.mk.injEq] at hH
 cases c with
 | ops _ _=>simp [lN] at hG
 | ex _=>simp [lN] at hG
 | drw _ _=>simp [lN] at hG
 | code c =>
 cases c with
 | rangeFunc g ps assign body =>
  have hi:mO L g=true:=by
   cases h:mO L g with
   | true=>rfl
   | false=>simp [lN,h] at hG
  simp only [lN,hi,Option.map_some,Option.some.injEq] at hG hne
  simp only [HE] at hpN
  have hRo:∀ (Y:HL),∀ y ∈ eJ ip ⟨.code (.rangeFunc g ps assign body),k,L,A,Ts⟩++R,y ∈ Y++(ap (eJ ip ⟨.code (.rangeFunc g ps assign body),k,L,A,Ts⟩) (fD jp ⟨.code (.rangeFunc g ps assign body),k,L,A,Ts⟩)++F):=by
   intro Y y hy
   rcases List.mem_append.1 hy with hy | hy
   ·exact List.mem_append_right _ (List.mem_append_left _ (List.mem_append_left _ hy))
   ·exact List.mem_append_right _ (List.mem_append_right _ (hR y hy))
  exact Bf (assign:=assign) (body:=body) hi hG eg (λ s=>(S s).1) (λ s=>(S s).2) I Ix (λ t=>(W t).L) (λ t=>ap (W t).A (W t).Ts) Ia (λ x=>(hne x).symm) hpN x0 h0 ip (oth ip A.length) jp (oth jp Ts.length) hp.1 hp.2 _ _ rfl rfl hH.1 hH.2 hit
   (λ l i x s1 Y w1 hx hi=>(hassign l i x s1 Y w1 hx hi (λ t ip' jp' ht hm h hp=>tM t ip' jp' ht hm h hp)).h (hRo Y))
   (λ l i x t Y w1 hx ht=>(hbody l i x t Y w1 hx ht).h (hRo Y))
   (λ d s1 hs=>(hdone d s1 hs).h hR) (λ d c s1 hs=>(hstop d c s1 hs).h hR)
 | _=>simp [lN] at hG
theorem Sp.runM {f:FuncId} {fn:Func} {c:Code} {args:Array Value} {H:HL} {R':Value -> HL -> Prop} (hf:P.funcs[f]?=some fn) (hb:fn.body=some c) (hR:∀ y ∈ R,y ∈ F) {A:HL} {Ts:List HL} (hH:H=ap A Ts)
  (h:∀ w0,RN none P fn.ntmps [] F w0 R ⟨.code c,[],pT 0 args.toList,A,Ts⟩ (bodyPostM (Wr none) 0 P fn (zw F w0 R'))) (ha:decide (args.size <= fn.ntmps)=true:=by kernel_rfl):Sp P f args H F R':=by
 subst hH
 exact uQ hf hb rfl ha _ rfl λ w0=>(h w0).h hR
def kj (dx:List Nat) (s:Cfg):Cfg:=match s with
 | ⟨c,k,L,A,Ts⟩=>⟨c,k,L,(oth dx A.length).filterMap (A[·]?),Ts⟩
theorem DG {fn:Func} {R':Value -> HL -> Prop} (ds dx:List Nat) (hints:List Hint) (Ob:List Prop) (hob:AllP Ob) (ip jp:List Nat) {v:Value} {H':HL} (hv:R' v H')
  (hD:D=ds.map coll:=by rfl) (hc:mr s=true:=by kernel_rfl) (hd:((dx++oth dx s.A.length).isPerm (List.range s.A.length),dx.filterMap (s.A[·]?))=(true,ds.map cm):=by kernel_rfl)
  (h:∀ n0,jx P n0 fn.results.toList R hints (kj dx s)=some (v,mX (jx P 0 fn.results.toList R hints (kj dx s)),mX (jx P 0 fn.results.toList R hints (kj dx s)),Ob):=by intro n0;kernel_rfl)
  (hp:b9 ip jp (kj dx s)=true:=by kernel_rfl) (hH:ap (picks ip jp (kj dx s)).1 (picks ip jp (kj dx s)).2=H':=by kernel_rfl):RN none P N D F w0 R s (bodyPostM (Wr none) 0 P fn (zw F w0 R')):=by
 unfold b9 at hp
 unfold picks at hH
 simp only [Prod.mk.injEq] at hd
 rw [Bool.and_eq_true] at hp
 obtain ⟨c,k,L,A,Ts⟩:=s
 refine ⟨λ hR a w hF hRel hB=>?_⟩
 have key:LeavesInM (Wr none) 0 P fn a.tmps (zw F w0 R') a.defers .returning w:=by
  exact Go.Proofs.YtgdcbiiopbpgaaaGreatDoor.retM (by simp) ds hD dx (oth dx A.length) R hints v _ Ob hd.1 hd.2 rfl h hR hob ip _ jp _ H' hp.1 hp.2 hH hv a w hF hRel hB
 exact nT hc key key
theorem RN.retM {fn:Func} {R':Value -> HL -> Prop} (ds dx:List Nat) (hints:List Hint) (ip jp:List Nat) {v:Value} {H':HL} (hv:R' v H')
 (hD:D=ds.map coll:=by rfl) (hc:mr s=true:=by kernel_rfl) (hd:((dx++oth dx s.A.length).isPerm (List.range s.A.length),dx.filterMap (s.A[·]?))=(true,ds.map cm):=by kernel_rfl)
 (h:∀ n0,jx P n0 fn.results.toList R hints (kj dx s)=some (v,mX (jx P 0 fn.results.toList R hints (kj dx s)),mX (jx P 0 fn.results.toList R hints (kj dx s)),[]):=by intro n0;kernel_rfl)
 (hp:b9 ip jp (kj dx s)=true:=by kernel_rfl) (hH:ap (picks ip jp (kj dx s)).1 (picks ip jp (kj dx s)).2=H':=by kernel_rfl):RN none P N D F w0 R s (bodyPostM (Wr none) 0 P fn (zw F w0 R')):=DG ds dx hints [] trivial ip jp hv hD hc hd h hp hH
end
theorem ShIn.up {F X:HL} {s:Shp} (h:ShIn F s):ShIn (X++F) s:=h.mono λ x hx=>List.mem_append_right _ hx
def isZ (a:V2):Prop:=((decide (a.x=0) && (decide (a.y=0) && true)))=true
instance (a:V2):Decidable (isZ a):=inferInstanceAs (Decidable (_=true))
def gM (a:V2):V2:=if isZ (kg a) then ⟨1024,0⟩ else kg a
def gq (pos ax:V2) (l:List V2):Nat -> Int × Int
 | 0=>(0,0)
 | k+1=>if (k:Int)=0 then (if cW (aD pos (l.getD k ⟨0,0⟩)) ax < cW (aD pos (l.getD k ⟨0,0⟩)) ax then cW (aD pos (l.getD k ⟨0,0⟩)) ax else cW (aD pos (l.getD k ⟨0,0⟩)) ax,if cW (aD pos (l.getD k ⟨0,0⟩)) ax > cW (aD pos (l.getD k ⟨0,0⟩)) ax then cW (aD pos (l.getD k ⟨0,0⟩)) ax else cW (aD pos (l.getD k ⟨0,0⟩)) ax)
  else (if cW (aD pos (l.getD k ⟨0,0⟩)) ax < (gq pos ax l k).1 then cW (aD pos (l.getD k ⟨0,0⟩)) ax else (gq pos ax l k).1,if cW (aD pos (l.getD k ⟨0,0⟩)) ax > (gq pos ax l k).2 then cW (aD pos (l.getD k ⟨0,0⟩)) ax else (gq pos ax l k).2)
def iz (s:Shp) (pos ax:V2):Int × Int:=if jh s then (aY (cW pos ax - s.r),aY (cW pos ax+s.r)) else gq pos ax s.poly s.poly.length
def ms (a:Shp) (pa:V2) (b:Shp) (pb ax:V2):Int:=aY ((if (iz b pb ax).2 < (iz a pa ax).2 then (iz b pb ax).2 else (iz a pa ax).2) - (if (iz b pb ax).1 > (iz a pa ax).1 then (iz b pb ax).1 else (iz a pa ax).1))
def LQ (off v:V2):Int:=aY (aY ((aD off v).x * (aD off v).x)+aY ((aD off v).y * (aD off v).y))
def eL (off:V2) (l:List V2):Nat -> V2 × Int
 | 0=>(l.getD 0 ⟨0,0⟩,LQ off (l.getD 0 ⟨0,0⟩))
 | k+1=>if LQ off (l.getD (1+k) ⟨0,0⟩) < (eL off l k).2 then (l.getD (1+k) ⟨0,0⟩,LQ off (l.getD (1+k) ⟨0,0⟩)) else eL off l k
def ji (c:V2) (s:Shp) (pos:V2):V2:=aD (dp pos c) (eL (dp pos c) s.poly (s.poly.length - 1)).1
theorem iA (a:V2)  (F:HL):Sp Tryz.prog 258 #[.agg #[vI a.x,vI a.y]] [] F (λ u H'=>u=.agg #[vI ((gM a).x),vI ((gM a).y)] /\ H'=[]):=by
 refine Sp.run Tryz.func258 rfl mn (A:=[]) (Ts:=[]) rfl λ w0=>?_
 refine ae 10 [.own 1,.own 1] λ n1=>aj (Bp a  _)<|ae 11 [.own 0,.own 0,.own 0,.own 0,.sq] λ n2=>uS ((decide ((kg a).x=0) && (decide ((kg a).y=0) && true))) 8 (λ h3=>?_) λ h3=>?_
 ·refine ae 9 [.own 1,.own 1] λ _=>RN.ret [.own 1,.own 1] [] [] (v:=.agg #[vI 1024,vI 0]) (H':=[]) ?_
  refine ⟨?_,rfl⟩
  first | rw [show gM a=⟨1024,0⟩ from if_pos (by assumption)] | rw [show gM a=kg a from if_neg (by assumption)]
 ·refine ae 7 [.own 0,.own 0,.own 1,.own 1] λ _=>RN.ret [.own 1,.own 1] [] [] (v:=.agg #[vI ((kg a).x),vI ((kg a).y)]) (H':=[]) ?_
  refine ⟨?_,rfl⟩
  first | rw [show gM a=⟨1024,0⟩ from if_pos (by assumption)] | rw [show gM a=kg a from if_neg (by assumption)]
theorem vf (r:Int) (A:Option Addr) (cap:Nat) (pos ax:V2) (F:HL):Sp Tryz.prog 261 #[.agg #[vI r,.slice A 0 cap],.agg #[vI pos.x,vI pos.y],.agg #[vI ax.x,vI ax.y]] [] F (λ u H'=>u=.tuple #[vI (iz ⟨r,[],A,cap⟩ pos ax).1,vI (iz ⟨r,[],A,cap⟩ pos ax).2] /\ H'=[]):=by
 refine Sp.run Tryz.func261 rfl mn (A:=[]) (Ts:=[]) rfl λ w0=>?_
 refine ae 13 [.own 2,.own 2] λ n1=>aj (nV r A 0 cap _)<|ae 7 [.own 1,.own 1,.own 0,.own 0] λ _=>aj (m5 pos ax  _)<|ae 4 [] λ _=>RN.draw [] []<|ag [] [0,1,4,5,2,6,3,7,8,9] [.own 2,.own 2]<|RD.fin<|ae 1 [] λ _=>?_
 exact RN.ret [] [] [] ⟨rfl,rfl⟩
theorem Bu (r:Int) (l:List V2) (b cap:Nat) (pos ax:V2) (F:HL) (hb:(b,.rows 2 cap (jz l) 29 (0,0)) ∈ F) (hl3:3 <= l.length) (h4:l.length <= cap) (h5:l.length <= 1000000):Sp Tryz.prog 261 #[.agg #[vI r,vS b 0 l.length cap],.agg #[vI pos.x,vI pos.y],.agg #[vI ax.x,vI ax.y]] [] F (λ u H'=>u=.tuple #[vI (iz ⟨r,l,some ⟨b,0,none⟩,cap⟩ pos ax).1,vI (iz ⟨r,l,some ⟨b,0,none⟩,cap⟩ pos ax).2] /\ H'=[]):=by
 refine Sp.run Tryz.func261 rfl (mc hb mn) (A:=[]) (Ts:=[]) rfl λ w0=>?_
 refine ae 13 [.own 2,.own 2] λ n1=>aj (nV r (some ⟨b,0,none⟩) l.length cap _)<|ae 2 [] λ _=>cT 13 (decide_eq_false (show ¬ ((l.length:Int)=0) by omega))<|ae 13 [.own 2] λ _=>RN.loop (σ:=Nat) (λ k=>⟨[(4,vP (n1+1) 0),(5,vP (n1+2) 0),(6,vI ((gq pos ax l k).1)),(7,vI ((gq pos ax l k).2)),(26,vS b 0 l.length cap),(27,vI (l.length:Int)),(28,vI (k:Int))],[((n1+2),.lit [vI ax.x,vI ax.y] 29 (0,0)),((n1+1),.lit [vI pos.x,vI pos.y] 29 (0,0)),((n1+0),.lit [vI r,vS b 0 l.length cap] 73 (0,0))],[],k <= l.length,l.length - k⟩) 0 [0,1,2] [] (Nat.zero_le _) ?_
 rintro k hI2 mt3
 refine ae 6 [] λ _=>RN.em ((k:Int) < (l.length:Int)) 29 (λ h4=>?_) λ h4=>?_
 ·refine ai 16 [.ix k,.rorow 0 k 0,.rorow 0 k 1,.own 0,.own 0] [((0+k * 2)+1)=k * 2+1 /\ k < cap,(0+k * 2)=k * 2+0 /\ k < cap,(k:Int)=((k:Nat):Int) /\ k < l.length] λ n5=>RN.draw [] []<|ag [] [0,1,3] [.own 2,.own 2,.own 0,.own 0,.own 1,.own 1]<|ar [] 2 (λ X_=>(dZ pos (l.getD k ⟨0,0⟩)  _))<|ar [] 4 (λ X_=>(m5 (aD pos (l.getD k ⟨0,0⟩)) ax  _))<|ag [] [5] []<|RD.fin<|ae 8 [] λ _=>RN.em ((k:Int)=0) 39 (λ h6=>?_) λ h6=>?_
  ·refine ai 24 [.nw] [bd ((k:Int)+1)] λ _=>?_
   have e_:gq pos ax l (k+1)=(if cW (aD pos (l.getD k ⟨0,0⟩)) ax < cW (aD pos (l.getD k ⟨0,0⟩)) ax then cW (aD pos (l.getD k ⟨0,0⟩)) ax else cW (aD pos (l.getD k ⟨0,0⟩)) ax,if cW (aD pos (l.getD k ⟨0,0⟩)) ax > cW (aD pos (l.getD k ⟨0,0⟩)) ax then cW (aD pos (l.getD k ⟨0,0⟩)) ax else cW (aD pos (l.getD k ⟨0,0⟩)) ax):=by
    rw [gq,if_pos h6]
   refine aJ 6 (congrArg (λ v_=>(vI v_:Value)) (congrArg Prod.fst e_).symm)<|aJ 7 (congrArg (λ v_=>(vI v_:Value)) (congrArg Prod.snd e_).symm) ?_
   refine mt3 (k+1) [1,2,3] [] ?_
   try dsimp only
   exact ⟨by omega,by omega⟩
  ·refine ai 19 [.nw] [bd ((k:Int)+1)] λ _=>?_
   have e_:gq pos ax l (k+1)=(if cW (aD pos (l.getD k ⟨0,0⟩)) ax < (gq pos ax l k).1 then cW (aD pos (l.getD k ⟨0,0⟩)) ax else (gq pos ax l k).1,if cW (aD pos (l.getD k ⟨0,0⟩)) ax > (gq pos ax l k).2 then cW (aD pos (l.getD k ⟨0,0⟩)) ax else (gq pos ax l k).2):=by
    rw [gq,if_neg h6]
   refine aJ 6 (congrArg (λ v_=>(vI v_:Value)) (congrArg Prod.fst e_).symm)<|aJ 7 (congrArg (λ v_=>(vI v_:Value)) (congrArg Prod.snd e_).symm) ?_
   refine mt3 (k+1) [1,2,3] [] ?_
   try dsimp only
   exact ⟨by omega,by omega⟩
 ·refine ae 14 [] λ _=>RN.ret [] [] [] (v:=.tuple #[vI ((gq pos ax l k).1),vI ((gq pos ax l k).2)]) (H':=[]) ?_
  have ek:k=l.length:=by omega
  subst ek
  refine ⟨?_,rfl⟩
  unfold iz
  rw [if_neg (by intro e;simp [jh] at e;rw [e] at hl3;simp at hl3)]
theorem vg (s:Shp) (pos ax:V2) (F:HL) (h:ShIn F s):Sp Tryz.prog 261 #[LN s,.agg #[vI pos.x,vI pos.y],.agg #[vI ax.x,vI ax.y]] [] F (λ u H'=>u=.tuple #[vI (iz s pos ax).1,vI (iz s pos ax).2] /\ H'=[]):=by
 cases h with
 | circle r A cap=>exact vf r A cap pos ax F
 | poly r l b cap h h3 h4 h5=>exact Bu r l b cap pos ax F h h3 h4 h5
theorem Bv (a:Shp) (pa:V2) (b:Shp) (pb ax:V2) (F:HL) (ha:ShIn F a) (hb:ShIn F b):Sp Tryz.prog 233 #[.agg #[vI a.r,.slice a.A a.poly.length a.cap],.agg #[vI pa.x,vI pa.y],.agg #[vI b.r,.slice b.A b.poly.length b.cap],.agg #[vI pb.x,vI pb.y],.agg #[vI ax.x,vI ax.y]] [] F (λ u H'=>u=vI (ms a pa b pb ax) /\ H'=[]):=by
 refine Sp.run Tryz.func233 rfl mn (A:=[]) (Ts:=[]) rfl λ w0=>?_
 refine ae 15 [.own 4,.own 4,.own 3,.own 3,.own 0,.own 0] λ n1=>aj (vg a pa ax _ (ha.up))<|ae 12 [.own 2,.own 2,.own 1,.own 1,.own 0,.own 0] λ _=>aj (vg b pb ax _ (hb.up))<|ae 19 [] λ _=>?_
 exact RN.ret [] [] [] ⟨rfl,rfl⟩
theorem zG (v off:V2) (q:Nat) (F:HL) (hq:(q,.lit [vI off.x,vI off.y] 29 (0,0)) ∈ F):Sp Tryz.prog 294 #[.agg #[vI v.x,vI v.y],vP q 0] [] F (λ u H'=>u=vI (LQ off v) /\ H'=[]):=by
 refine Sp.run Tryz.func294 rfl (mc hq mn) (A:=[]) (Ts:=[]) rfl λ w0=>?_
 refine ae 10 [.ro 0,.ro 0,.own 0,.own 0] λ n1=>aj (dZ off v  _)<|ae 20 (ow 0 6) λ n2=>?_
 exact RN.ret [] [] [] ⟨rfl,rfl⟩
theorem Bw (l:List V2) (b cap:Nat) (off:V2) (q:Nat) (F:HL) (hb:(b,.rows 2 cap (jz l) 29 (0,0)) ∈ F) (h3:3 <= l.length) (h4:l.length <= cap) (h5:l.length <= 1000000) (hq:(q,.lit [vI off.x,vI off.y] 29 (0,0)) ∈ F):Sp Tryz.prog 293 #[vS b 0 l.length cap,.func (.func 294) #[] #[vP q 0]] [] F (λ u H'=>u=.agg #[vI (((eL off l (l.length - 1)).1).x),vI (((eL off l (l.length - 1)).1).y)] /\ H'=[]):=by
 refine Sp.run Tryz.func293 rfl (mc hb (mc hq mn)) (A:=[]) (Ts:=[]) rfl λ w0=>?_
 refine ae 6 [] λ n1=>RN.draw [9] [0]<|aH [0] [0,3,4,1,5,2,6] [.ix 0,.ix 0,.rorow 0 0 0,.rorow 0 0 1,.rorow 0 0 0,.rorow 0 0 1] [((0+0 * 2)+1)=0 * 2+1 /\ 0 < cap,(0+0 * 2)=0 * 2+0 /\ 0 < cap,((0+0 * 2)+1)=0 * 2+1 /\ 0 < cap,(0+0 * 2)=0 * 2+0 /\ 0 < cap,0=((0:Nat):Int) /\ 0 < l.length,0=((0:Nat):Int) /\ 0 < l.length]<|ar [0] 7 (λ X_=>(zG (l.getD 0 ⟨0,0⟩) off q _ (List.mem_append_right _ (List.mem_append_right _ hq))))<|RD.one 8 (RDO.ev [] [] λ n3=>?_)
 refine RD.one 9 (RDO.ev [1] [.own 0,.own 0] λ _=>?_)
 refine ag [1] [10] []<|RD.fin<|ai 11 [.sl 1 l.length false] [1=((1:Nat):Int) /\ l.length=l.length /\ 1 <= l.length /\ l.length <= cap /\ cap ≠ 1] λ _=>RN.loop (σ:=Nat) (λ k=>⟨[(1,.func (.func 294) #[] #[vP q 0]),(4,vP (n1+0) 0),(5,vP (n3+0) 0),(6,vI ((eL off l k).2)),(19,vS b 2 (l.length - 1) (cap - 1)),(20,vI (((l.length - 1):Nat):Int)),(21,vI (k:Int))],[((n3+0),.lit [vI ((eL off l k).1.x),vI ((eL off l k).1.y)] 29 (0,0)),((n1+0),.lit [vI 0,vI 0] 29 (0,0))],[],k <= l.length - 1,l.length - k⟩) 0 [0,1] [] (Nat.zero_le _) ?_
 rintro k hI4 mt5
 refine ae 6 [] λ _=>RN.em ((k:Int) < (((l.length - 1):Nat):Int)) 22 (λ h6=>?_) λ h6=>?_
 ·refine ai 17 [.ix k,.rorow 0 (1+k) 0,.rorow 0 (1+k) 1,.own 0,.own 0,.own 0,.own 0] [((2+k * 2)+1)=(1+k) * 2+1 /\ (1+k) < cap,(2+k * 2)=(1+k) * 2+0 /\ (1+k) < cap,(k:Int)=((k:Nat):Int) /\ k < (l.length - 1)] λ n7=>aj (zG (l.getD (1+k) ⟨0,0⟩) off q _ (List.mem_append_right _ hq))<|ae 10 [] λ _=>RN.em (LQ off (l.getD (1+k) ⟨0,0⟩) < (eL off l k).2) 30 (λ h8=>?_) λ h8=>?_
  ·refine ai 13 [.own 0,.own 0,.own 1,.own 1,.nw] [bd ((k:Int)+1)] λ _=>?_
   have e_:eL off l (k+1)=(l.getD (1+k) ⟨0,0⟩,LQ off (l.getD (1+k) ⟨0,0⟩)):=by rw [eL,if_pos h8]
   refine aJ 6 (congrArg (λ v_=>(vI v_:Value)) (congrArg Prod.snd e_).symm)<|cR 1 (congrArg (λ v_=>(.lit [vI v_.1.x,vI v_.1.y] 29 (0,0):Blk)) e_.symm) ?_
   refine mt5 (k+1) [1,2] [] ?_
   try dsimp only
   exact ⟨by omega,by omega⟩
  ·refine ai 8 [.nw] [bd ((k:Int)+1)] λ _=>?_
   have e_:eL off l (k+1)=eL off l k:=by rw [eL,if_neg h8]
   refine aJ 6 (congrArg (λ v_=>(vI v_:Value)) (congrArg Prod.snd e_).symm)<|cR 1 (congrArg (λ v_=>(.lit [vI v_.1.x,vI v_.1.y] 29 (0,0):Blk)) e_.symm) ?_
   refine mt5 (k+1) [1,2] [] ?_
   try dsimp only
   exact ⟨by omega,by omega⟩
 ·refine ae 12 [.own 0,.own 0,.own 1,.own 1] λ _=>RN.ret [.own 1,.own 1] [] [] (v:=.agg #[vI ((eL off l k).1.x),vI ((eL off l k).1.y)]) (H':=[]) ?_
  have ek:k=l.length - 1:=by omega
  subst ek
  exact ⟨rfl,rfl⟩
end Go.Proofs.YtgdcbiiopbpgaaaGreatDoor
