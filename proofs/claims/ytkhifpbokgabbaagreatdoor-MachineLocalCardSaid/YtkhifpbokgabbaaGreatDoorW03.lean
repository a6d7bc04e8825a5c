import Derived.Test.YtkhifpbokgabbaaGreatDoorW02
import Derived.OrdersIn
set_option maxHeartbeats 4000000
set_option maxRecDepth 100000
set_option linter.unusedSimpArgs false
set_option linter.unusedVariables false
namespace Go.Proofs.YtkhifpbokgabbaaGreatDoor
open Go.RowKit
def gives (P:Program) (o:Oper) (a:Act) (w:World) (R:Value -> World -> Prop):Prop:=match (execOp a.eval o).run P w with
  | .ok (.value u) w'=>R u w'
  | .ok .skip w'=>R undef w'
  | .ok (.enter f args) w'=>Calls P f args w' fun
    | .returned u,w''=>R u w''
    | _,_=>False
  | _=>False
theorem gives_mono {P:Program} {o:Oper} {a:Act} {w:World} {R R':Value -> World -> Prop} (h:gives P o a w R) (hr:∀ u w,R u w -> R' u w):gives P o a w R':=by
  unfold gives at *
  split at h
  · exact hr _ _ h
  · exact hr _ _ h
  · exact h.mono λ e w he=>by cases e <;> first | exact hr _ _ he | exact he
  · exact h
theorem gives_upon {r:Option Nat} {P:Program} {o:Oper} {a:Act} {w:World} {R:Value -> World -> Prop} {K:Act -> World -> Prop} {Q:Exit -> Act -> World -> Prop} (hd:∀ c,o.op ≠ .defer c) (h:gives P o a w R) (hk:∀ u w',R u w' -> K (a.put o.dst u) w') :
    o.uponIn (Wr r) 0 P a K Q ((o.semAt (Wr r).round a.eval).run P w):=by
  rw [Oper.semAt_eq _ _ _ hd]
  unfold gives at h
  split at h
  · rename_i u w' he;rw [he];exact hk _ _ h
  · rename_i w' he;rw [he];exact hk _ _ h
  · rename_i f args w' he;rw [he,Oper.uponIn_enter]
    exact ⟨λ h=>(by cases h),Wr.calls (h.mono λ e w he=>by
      cases e with
      | returned u=>exact hk _ _ he
      | panicked _=>exact he.elim
      | outgrown=>exact he.elim)⟩
  · exact h.elim
theorem gives_same {P:Program} {o:Oper} {a a':Act} {w:World} {R:Value -> World -> Prop} (he:execOp a'.eval o=execOp a.eval o) (h:gives P o a w R):gives P o a' w R:=by
  unfold gives at *;rw [he];exact h
section
variable {P:Program} {ops:Array Oper} {Q:Exit -> Act -> World -> Prop} {F:HL} {w0:World} {hards:List Nat} {Rd:HL}
def OPJ (P:Program) (ops:Array Oper) (F:HL) (w0:World) (hards:List Nat) (Rd:HL) (i:Nat) (a:Act) (H:HL) (K:Act -> HL -> Prop):Prop:=match ops[i]? with
  | none=>False
  | some o=>if Region.wanted o (yielded ops a.tmps)=true then
      ∀ w,Rel (H++F) w -> Below 0 w0 w -> gives P o a w λ u w'=>∃ H',((i ∉ hards -> ∃ X,H'=X++H) /\ (i ∈ hards -> ∀ x ∈ Rd,x ∈ H')) /\ K (a.put o.dst u) H' /\ Rel (H'++F) w' /\ Below 0 w0 w'
    else K (a.put o.dst undef) H
def EXA (Q:Exit -> Act -> World -> Prop) (F:HL) (w0:World) (a:Act) (H:HL):Prop:=∀ w,Rel (H++F) w -> Below 0 w0 w -> Q .normal a w
def JJ (P:Program) (ops:Array Oper) (Q:Exit -> Act -> World -> Prop) (F:HL) (w0:World) (hards:List Nat) (Rd:HL):Nat -> Array Bool -> Act -> HL -> Prop
  | 0,listed,a,H=>Region.ready .any ops listed=[] /\ EXA Q F w0 a H
  | fuel+1,listed,a,H=>(Region.ready .any ops listed=[] -> EXA Q F w0 a H) /\
    ∀ i ∈ Region.ready .any ops listed,OPJ P ops F w0 hards Rd i a H (JJ P ops Q F w0 hards Rd fuel (listed.setIfInBounds i true))
def VO (P:Program) (ops:Array Oper) (F:HL) (w0:World) (o:Oper) (v:Value) (a:Act) (H:HL):Prop :=
  (Region.wanted o (yielded ops a.tmps)=true /\ ∀ X w,Rel (X++(H++F)) w -> Below 0 w0 w -> gives P o a w λ u w'=>u=v /\ Rel (X++(H++F)) w' /\ Below 0 w0 w') \/
  (Region.wanted o (yielded ops a.tmps)=false /\ v=undef)
theorem VO.same {o:Oper} {v:Value} {a a':Act} {H:HL} (h:VO P ops F w0 o v a H) (he:execOp a'.eval o=execOp a.eval o) (hw:Region.wanted o (yielded ops a'.tmps)=Region.wanted o (yielded ops a.tmps)):VO P ops F w0 o v a' H:=by
  rcases h with ⟨h1,h2⟩ | ⟨h1,h2⟩
  · exact .inl ⟨hw.trans h1,λ X w hR hB=>gives_same he (h2 X w hR hB)⟩
  · exact .inr ⟨hw.trans h1,h2⟩
theorem VO.more {o:Oper} {v:Value} {a:Act} {H:HL} (h:VO P ops F w0 o v a H) (X:HL):VO P ops F w0 o v a (X++H):=by
  rcases h with ⟨h1,h2⟩ | ⟨h1,h2⟩
  · refine .inl ⟨h1,λ Y w hR hB=>?_⟩
    have e:Y++(X++H++F)=(Y++X)++(H++F):=by simp
    rw [e] at hR ⊢
    exact h2 (Y++X) w hR hB
  · exact .inr ⟨h1,h2⟩
theorem VO.opj {i:Nat} {o:Oper} {v:Value} {a:Act} {H:HL} (hRd:∀ x ∈ Rd,x ∈ H) (hi:ops[i]?=some o) (h:VO P ops F w0 o v a H) {K:Act -> HL -> Prop} (hk:K (a.put o.dst v) H):OPJ P ops F w0 hards Rd i a H K:=by
  unfold OPJ
  rw [hi]
  simp only
  rcases h with ⟨h1,h2⟩ | ⟨h1,rfl⟩
  · rw [if_pos h1]
    intro w hR hB
    refine gives_mono (h2 [] w hR hB) ?_
    rintro u w' ⟨rfl,h3,h4⟩
    exact ⟨H,⟨λ _=>⟨[],rfl⟩,λ _=>hRd⟩,hk,h3,h4⟩
  · rw [if_neg (by rw [h1];simp)]
    exact hk
def comes (ops:Array Oper) (i:Nat):Nat -> Nat -> Bool
  | 0,_=>false
  | f+1,m=>match ops[m]? with
    | some o=>o.after.toList.any λ e=>Region.binds .any e && (e.on == i || comes ops i f e.on)
    | none=>false
def Closed (ops:Array Oper) (listed:Array Bool):Prop :=
  ∀ j oj,ops[j]?=some oj -> listed.getD j false=true -> ∀ e ∈ oj.after,Region.binds .any e=true -> listed.getD e.on false=true
theorem Closed.set {listed:Array Bool} {j:Nat} (h:Closed ops listed) (hj:j ∈ Region.ready .any ops listed):Closed ops (listed.setIfInBounds j true):=by
  obtain ⟨_,oj,hoj,hall⟩:=mem_ready.1 hj
  intro k ok hk hl e he hb
  by_cases hjk:j=k
  · subst hjk
    obtain rfl:ok=oj:=Option.some.inj (hk.symm.trans hoj)
    exact getD_set_true (hall e he hb)
  · rw [getD_set_ne false hjk] at hl
    exact getD_set_true (h k ok hk hl e he hb)
theorem Closed.comes {listed:Array Bool} (h:Closed ops listed) {i:Nat} (hi:listed.getD i false=false):∀ (f m:Nat),comes ops i f m=true -> listed.getD m false=false
  | 0,m,ha=>by simp [YtkhifpbokgabbaaGreatDoor.comes] at ha
  | f+1,m,ha=>by
    rw [YtkhifpbokgabbaaGreatDoor.comes] at ha
    cases hm:ops[m]? with
    | none=>rw [hm] at ha;cases ha
    | some o =>
      rw [hm] at ha
      obtain ⟨e,he,hb⟩:=List.any_eq_true.1 ha
      simp only [Bool.and_eq_true,Bool.or_eq_true,beq_iff_eq] at hb
      cases hl:listed.getD m false with
      | false=>rfl
      | true =>
        have h1:=h m o hm hl e (by simpa using he) hb.1
        rcases hb.2 with h2 | h2
        · rw [h2,hi] at h1;cases h1
        · rw [h.comes hi f e.on h2] at h1;cases h1
theorem getD_both' {listed:Array Bool} {i:Nat} (h:listed.getD i true=false):listed.getD i false=false:=by
  rcases Nat.lt_or_ge i listed.size with h' | h'
  · simp [h'] at h ⊢;exact h
  · simp [Array.getElem?_eq_none h'] at h
theorem JJ_first {i:Nat} {oi:Oper} {v:Value} (hi:ops[i]?=some oi) (hsel:∀ (j:Nat) (o:Oper) cs b,ops[j]?=some o -> o.op ≠ .select cs b) :
    ∀ (fuel:Nat) (listed:Array Bool) (a:Act) (H:HL),((∀ m ∈ hards,comes ops i ops.size m=true) \/ ∀ H',(∀ x ∈ Rd,x ∈ H') -> VO P ops F w0 oi v a H') -> (∀ x ∈ Rd,x ∈ H) -> Closed ops listed ->
      (∀ j oj,ops[j]?=some oj -> j ≠ i -> listed.getD j true=false -> (∀ e ∈ oj.after,Region.binds .any e=true -> e.on ≠ i) -> oi.apart ops oj=true) ->
      i ∈ Region.ready .any ops listed -> VO P ops F w0 oi v a H ->
      JJ P ops Q F w0 hards Rd fuel (listed.setIfInBounds i true) (a.put oi.dst v) H -> JJ P ops Q F w0 hards Rd (fuel+1) listed a H:=by
  intro fuel
  induction fuel with
  | zero =>
    intro listed a H _ hRd _ _ hr hy hj0
    refine ⟨λ h=>(by rw [h] at hr;cases hr),λ j hj=>?_⟩
    by_cases hji:j=i
    · subst hji;exact hy.opj hRd hi hj0
    · have:=ready_mono hj hji
      rw [hj0.1] at this
      cases this
  | succ fuel ih =>
    intro listed a H hh hRd hcl hfree hr hy hJ
    refine ⟨λ h=>(by rw [h] at hr;cases hr),λ j hj=>?_⟩
    by_cases hji:j=i
    · subst hji;exact hy.opj hRd hi hJ
    · have h1:=hJ.2 j (ready_mono hj hji)
      obtain ⟨hjun,oj,hoj,hall⟩:=mem_ready.1 hj
      have hiun:=(mem_ready.1 hr).1
      have hnot:∀ e ∈ oj.after,Region.binds .any e=true -> e.on ≠ i:=λ e he hb heq=>by
        have h1:=hall e he hb
        rw [heq,getD_both' hiun] at h1
        cases h1
      obtain ⟨p1,p2,p3⟩:=Oper.apart_spec (hfree j oj hoj hji hjun hnot)
      have hcl':=hcl.set hj
      have hiun':(listed.setIfInBounds j true).getD i false=false:=by rw [getD_set_ne false hji];exact getD_both' hiun
      have hjlt:j < listed.size:=by
        rcases Nat.lt_or_ge j listed.size with h | h
        · exact h
        · simp [Array.getElem?_eq_none h] at hjun
      have hjn:(∀ m ∈ hards,comes ops i ops.size m=true) -> j ∉ hards:=λ hh hm=>by
        have h2:=hcl'.comes hiun' _ j (hh j hm)
        simp [hjlt] at h2
      have hfree':∀ k ok,ops[k]?=some ok -> k ≠ i -> (listed.setIfInBounds j true).getD k true=false ->
          (∀ e ∈ ok.after,Region.binds .any e=true -> e.on ≠ i) -> oi.apart ops ok=true:=λ k ok hk hki hun hno=>by
        refine hfree k ok hk hki ?_ hno
        by_cases hjk:j=k
        · subst hjk;exact hjun
        · rw [getD_set_ne true hjk] at hun;exact hun
      have hr':=ready_mono hr (Ne.symm hji)
      unfold OPJ at h1 ⊢
      rw [hoj] at h1 ⊢
      simp only at h1 ⊢
      rw [wanted_put oj a oi.dst v p1] at h1
      have keep:∀ u,VO P ops F w0 oi v (a.put oj.dst u) H:=λ u=>hy.same (execOp_put oi (λ cs b=>hsel i oi cs b hi) a oj.dst u p3) (wanted_put oi a oj.dst u p3)
      have keepA:(∀ H',(∀ x ∈ Rd,x ∈ H') -> VO P ops F w0 oi v a H') -> ∀ u H',(∀ x ∈ Rd,x ∈ H') -> VO P ops F w0 oi v (a.put oj.dst u) H':=λ hh u H' hr=>(hh H' hr).same (execOp_put oi (λ cs b=>hsel i oi cs b hi) a oj.dst u p3) (wanted_put oi a oj.dst u p3)
      by_cases hw:Region.wanted oj (yielded ops a.tmps)=true
      · rw [if_pos hw] at h1 ⊢
        intro w hR hB
        refine gives_mono (gives_same (execOp_put oj (λ cs b=>hsel j oj cs b hoj) a oi.dst v p1).symm (h1 w hR hB)) ?_
        rintro u w' ⟨H',hx,h2,h3,h4⟩
        refine ⟨H',hx,?_,h3,h4⟩
        have hRd':∀ x ∈ Rd,x ∈ H':=by
          by_cases hjh:j ∈ hards
          · exact hx.2 hjh
          · obtain ⟨X,rfl⟩:=hx.1 hjh
            exact λ x hx=>List.mem_append_right _ (hRd x hx)
        have hy':VO P ops F w0 oi v (a.put oj.dst u) H':=by
          rcases hh with hh | hh
          · obtain ⟨X,rfl⟩:=hx.1 (hjn hh)
            exact (keep u).more X
          · exact keepA hh u H' hRd'
        refine ih _ _ _ (hh.imp id λ hh=>keepA hh u) hRd' hcl' hfree' hr' hy' ?_
        rw [Array.setIfInBounds_comm _ _ hji,<- Act.put_comm a v u p2]
        exact h2
      · rw [if_neg hw] at h1 ⊢
        refine ih _ _ _ (hh.imp id λ hh=>keepA hh undef) hRd hcl' hfree' hr' (keep undef) ?_
        rw [Array.setIfInBounds_comm _ _ hji,<- Act.put_comm a v undef p2]
        exact h1
end
def readyL (ops:List Oper) (listed:List Bool):List Nat :=
  (List.range ops.length).filter λ i=>!(listed.getD i true) && ((ops[i]?).map (·.after.toList.all λ e=>!Region.binds .any e || listed.getD e.on false)).getD false
theorem readyL_eq (ops:Array Oper) (listed:List Bool):Region.ready .any ops ⟨listed⟩=readyL ops.toList listed:=by
  unfold Region.ready readyL
  rw [Array.length_toList]
  apply List.filter_congr
  intro i _
  simp only [Array.getD_eq_getD_getElem?,List.getElem?_toArray,List.getD_eq_getElem?_getD,Array.getElem?_toList]
  congr 1
  cases ops[i]? with
  | none=>rfl
  | some o=>simp
def okV (ops:List Oper) (hards:List Nat) (listed:List Bool) (i:Nat):Bool :=
  (readyL ops listed).contains i && Region.free .any ⟨ops⟩ ⟨listed⟩ i && hards.all (λ m=>comes ⟨ops⟩ i ops.length m)
def okW (ops:List Oper) (listed:List Bool) (i:Nat):Bool :=
  (readyL ops listed).contains i && Region.free .any ⟨ops⟩ ⟨listed⟩ i
def TD (P:Program) (N:Nat) (D:List Deferred) (F:HL) (w0:World) (ops:Array Oper) (hards:List Nat) (Rd:HL) (fuel:Nat) (listed:List Bool) (L:FL) (H:HL) (Q:Exit -> Act -> World -> Prop):Prop :=
  Closed ops ⟨listed⟩ -> ∀ a,Fm N D L a -> JJ P ops Q F w0 hards Rd fuel ⟨listed⟩ a H
section
variable {r:Option Nat} {P:Program} {N:Nat} {D:List Deferred} {F:HL} {w0:World} {ops:Array Oper} {hards:List Nat} {Rd:HL} {fuel:Nat} {listed:List Bool} {L:FL} {H:HL} {Q:Exit -> Act -> World -> Prop}
theorem closed_none (n:Nat):Closed ops ⟨List.replicate n false⟩:=by
  intro j oj _ hl
  exfalso
  rcases Nat.lt_or_ge j n with h | h
  · simp [h] at hl
  · simp [h] at hl
def noDefer (ops:Array Oper):Bool:=ops.all λ o=>match o.op with | .defer _=>false | _=>true
theorem noDefer_spec (h:noDefer ops=true) (j:Nat) (o:Oper) (c:Call) (ho:ops[j]?=some o):o.op ≠ .defer c:=by
  intro heq
  have:=Array.all_eq_true_iff_forall_mem.1 h o (Array.mem_of_getElem? ho)
  simp [heq] at this
theorem wpAnyIn_of_JJ (hd:noDefer ops=true):∀ (fuel:Nat) (listed:Array Bool) (a:Act) (H:HL) (w:World),JJ P ops (NoPanic Q) F w0 hards Rd fuel listed a H -> Rel (H++F) w -> Below 0 w0 w -> wpAnyIn (Wr r) 0 P .any ops Q fuel listed a w
  | 0,_,a,H,w,h,hR,hB=>⟨h.1,h.2 w hR hB⟩
  | fuel+1,listed,a,H,w,h,hR,hB=>by
    refine ⟨λ hr=>h.1 hr w hR hB,λ i hi=>?_⟩
    have h1:=h.2 i hi
    unfold OPJ at h1
    unfold wpOpIn
    cases ho:ops[i]? with
    | none=>rw [ho] at h1;exact h1.elim
    | some o =>
      rw [ho] at h1
      simp only at h1 ⊢
      by_cases hw:Region.wanted o (yielded ops a.tmps)=true
      · rw [if_pos hw] at h1 ⊢
        refine ⟨λ _ _=>trivial,gives_upon (λ c=>noDefer_spec hd i o c ho) (h1 w hR hB) ?_⟩
        rintro u w' ⟨H',_,h2,h3,h4⟩
        exact wpAnyIn_of_JJ hd fuel _ _ H' w' h2 h3 h4
      · rw [if_neg hw] at h1 ⊢
        exact ⟨λ _ _=>trivial,wpAnyIn_of_JJ hd fuel _ _ H w h1 hR hB⟩
theorem TR.draw {id:Nat} (hards:List Nat) (Rd:HL) (hm:P.follows .mixedOrders=true) (hs:Region.noSelect ops=true) (hd:noDefer ops=true) (h:TD P N D F w0 ops hards Rd ops.size (List.replicate ops.toList.length false) L H (NoPanic Q)):TR r P N D F w0 L H (.region id ops true) Q:=by
  intro a w h1 h2 h3
  refine wpIn_region_any hm ?_
  have h4:=h (closed_none _) a h1
  have e:Array.replicate ops.size false=⟨List.replicate ops.toList.length false⟩:=by simp
  rw [e]
  refine wpAnyIn_of_JJ hd (hards:=hards) (Rd:=Rd) _ _ _ H _ h4 (h2.world rfl) ⟨h3.os,h3.tape,h3.output,h3.size,λ k hk=>by omega⟩
theorem TD.fin (hr:readyL ops.toList listed=[]) (h:EX N D F w0 L H Q .normal):TD P N D F w0 ops hards Rd fuel listed L H Q:=by
  intro _ a hF
  have hr':=(readyL_eq ops listed).trans hr
  have hx:EXA Q F w0 a H:=λ w hR hB=>h a w hF hR hB
  cases fuel with
  | zero=>exact ⟨hr',hx⟩
  | succ n=>exact ⟨λ _=>hx,λ i hi=>by rw [hr'] at hi;cases hi⟩
theorem EX.np (h:EX N D F w0 L H Q .normal):EX N D F w0 L H (NoPanic Q) .normal:=h
def segV (P:Program) (n0 N:Nat) (ops:List Oper) (hards:List Nat) (Rd:HL):List Nat -> List Bool -> FL -> SS -> Option (List Bool × FL × SS)
  | [],listed,L,s=>some (listed,L,s)
  | i :: is,listed,L,s=>match okW ops listed i,ops[i]? with
    | true,some o=>match wantL ops o L s with
      | none=>none
      | some (false,s)=>match putL N o.dst undef L with
        | some L=>segV P n0 N ops hards Rd is (setAt listed i true) L s
        | none=>none
      | some (true,s)=>match okOps o.op L with
        | false=>none
        | true=>match okV ops hards listed i with
          | true=>match ev P n0 o (rho L) s with
            | some (.value v,s)=>match putL N o.dst v L with
              | some L=>segV P n0 N ops hards Rd is (setAt listed i true) L s
              | none=>none
            | _=>none
          | false=>match ev P n0 o (rho L) { s with h:=[],r:=Rd++s.r } with
            | some (.value v,s')=>match putL N o.dst v L with
              | some L=>segV P n0 N ops hards Rd is (setAt listed i true) L { s' with h:=s.h,r:=s.r }
              | none=>none
            | _=>none
    | _,_=>none
theorem okW_spec {i:Nat} (h:okW ops.toList listed i=true):i ∈ Region.ready .any ops ⟨listed⟩ /\ Region.free .any ops ⟨listed⟩ i=true:=by
  unfold okW at h
  simp only [Bool.and_eq_true,List.contains_iff_mem] at h
  exact ⟨by rw [readyL_eq];exact h.1,h.2⟩
theorem okV_spec {i:Nat} (h:okV ops.toList hards listed i=true):i ∈ Region.ready .any ops ⟨listed⟩ /\ Region.free .any ops ⟨listed⟩ i=true /\ ∀ m ∈ hards,comes ops i ops.size m=true:=by
  unfold okV at h
  simp only [Bool.and_eq_true,List.contains_iff_mem,List.all_eq_true] at h
  obtain ⟨⟨h1,h2⟩,h3⟩:=h
  exact ⟨by rw [readyL_eq];exact h1,h2,λ m hm=>by simpa using h3 m hm⟩
theorem segV_keeps {n0:Nat} {l:List Oper}:∀ (is:List Nat) (b b':List Bool) (L L':FL) (s s':SS),segV P n0 N l hards Rd is b L s=some (b',L',s') -> (∀ p ∈ s.eq,p ∈ s'.eq) /\ (∀ p ∈ s.ob,p ∈ s'.ob)
  | [],b,b',L,L',s,s',h=>by rw [segV] at h;cases h;exact ⟨λ _ h=>h,λ _ h=>h⟩
  | i :: is,b,b',L,L',s,s',h=>by
    rw [segV] at h
    split at h
    case h_2=>cases h
    split at h
    · cases h
    · rename_i hw
      split at h
      case h_2=>cases h
      obtain ⟨a1,a2,_⟩:=wantL_keeps hw
      obtain ⟨b1,b2⟩:=segV_keeps is _ _ _ _ _ _ h
      exact ⟨λ p hp=>b1 p (a1 p hp),λ p hp=>b2 p (a2 p hp)⟩
    · rename_i hw
      split at h
      · cases h
      split at h
      all_goals
        split at h
        case h_2=>cases h
        rename_i he
        split at h
        case h_2=>cases h
        obtain ⟨a1,a2,_⟩:=wantL_keeps hw
        obtain ⟨c1,c2,_⟩:=ev_keeps he
        obtain ⟨b1,b2⟩:=segV_keeps is _ _ _ _ _ _ h
        exact ⟨λ p hp=>b1 p (c1 p (a1 p hp)),λ p hp=>b2 p (c2 p (a2 p hp))⟩
theorem ev_ro {n0:Nat} {o:Oper} {ρ:Operand -> Value} {s s':SS} {x:Next} (h:ev P n0 o ρ s=some (x,s')) (hw:s.wr=false):s'.h=s.h:=by
  unfold ev at h
  repeat' split at h
  all_goals first
    | exact (arun_ro _ _ _ _ h hw :)
    | (cases h;done)
    | (cases h;rfl)
    | (rename_i e;rw [hw] at e;cases e)
theorem set_bits (i:Nat):(⟨listed⟩:Array Bool).setIfInBounds i true=⟨setAt listed i true⟩:=by
  rw [setAt_eq];simp
theorem TD.vo {i:Nat} {o:Oper} {v:Value} {L1:FL} (hs:Region.noSelect ops=true) (hok:okW ops.toList listed i=true) (ho:ops[i]?=some o) (hp:∀ a,Fm N D L a -> Fm N D L1 (a.put o.dst v)) (hv:∀ a,Fm N D L a -> VO P ops F w0 o v a H)
    (hRd:∀ x ∈ Rd,x ∈ H) (hh:okV ops.toList hards listed i=true \/ ∀ a,Fm N D L a -> ∀ H',(∀ x ∈ Rd,x ∈ H') -> VO P ops F w0 o v a H')
    (h:TD P N D F w0 ops hards Rd fuel (setAt listed i true) L1 H Q):TD P N D F w0 ops hards Rd (fuel+1) listed L H Q:=by
  intro hcl a hF
  obtain ⟨h1,h2⟩:=okW_spec hok
  refine JJ_first ho (Region.noSelect_spec hs) fuel _ a H (hh.imp (λ hh=>(okV_spec hh).2.2) (λ hh=>hh a hF)) hRd hcl (Region.free_spec ho h2) h1 (hv a hF) ?_
  rw [set_bits]
  refine h ?_ _ (hp a hF)
  rw [<- set_bits]
  exact hcl.set h1
theorem perm_front {X H F:HL} {w:World} (hRel:Rel (X++(H++F)) w):Rel (H++(X++F)) w:=hRel.perm (by
  rw [<- List.append_assoc,<- List.append_assoc]
  exact List.Perm.append_right F List.perm_append_comm)
theorem TD.vals_gen {Rr:HL} (hs:Region.noSelect ops=true) (hRd:∀ x ∈ Rd,x ∈ H) (hR:∀ y ∈ Rr,y ∈ F):∀ (is:List Nat) (b b':List Bool) (L L':FL) (s s':SS),segV P 0 N ops.toList hards Rd is b L s=some (b',L',s') ->
    s.h=H -> s.r=Rr -> s.wr=false -> (∀ p ∈ s'.eq,p.1=p.2) -> (∀ p ∈ s'.ob,p) ->
    TD P N D F w0 ops hards Rd fuel b' L' H Q -> TD P N D F w0 ops hards Rd (fuel+is.length) b L H Q
  | [],b,b',L,L',s,s',h,_,_,_,_,_,hk=>by
    rw [segV] at h;cases h;exact hk
  | i :: is,b,b',L,L',s,s',h,hh,hr,hw,heq,hob,hk=>by
    rw [segV] at h
    split at h
    case h_2=>cases h
    rename_i o hokw ho
    have ho':ops[i]?=some o:=by simpa using ho
    split at h
    · cases h
    · rename_i s1 hwl
      split at h
      case h_2=>cases h
      rename_i L1 hp
      obtain ⟨a1,a2,a3,a4⟩:=wantL_keeps hwl
      obtain ⟨b1,b2⟩:=segV_keeps is _ _ _ _ _ _ h
      have hws:∀ a,Fm N D L a -> Region.wanted o (yielded ops a.tmps)=false /\ s1.h=s.h /\ s1.cnt=s.cnt:=λ a hF=>wantL_sound hwl hF (λ p hp=>hob p (b2 p hp))
      refine λ hcl a hF=>?_
      obtain ⟨c1,c2,c3⟩:=hws a hF
      exact (TD.vo (v:=undef) hs hokw ho' (λ a hF=>hF.put hp) (λ a hF=>.inr ⟨(hws a hF).1,rfl⟩) hRd (.inr λ a hF H' _=>.inr ⟨(hws a hF).1,rfl⟩)
        (TD.vals_gen hs hRd hR is _ b' L1 L' s1 s' h (by rw [c2];exact hh) (by rw [a3];exact hr) (a4.trans hw) heq hob hk):TD P N D F w0 ops hards Rd (fuel+is.length+1) b L H Q) hcl a hF
    · rename_i s1 hwl
      split at h
      · cases h
      rename_i hok
      obtain ⟨a1,a2,a3,a4⟩:=wantL_keeps hwl
      split at h
      · rename_i hokv
        split at h
        case h_2=>cases h
        rename_i v s2 he
        split at h
        case h_2=>cases h
        rename_i L1 hp
        obtain ⟨d1,d2,d3,d4⟩:=ev_keeps he
        obtain ⟨b1,b2⟩:=segV_keeps is _ _ _ _ _ _ h
        have hws:∀ a,Fm N D L a -> Region.wanted o (yielded ops a.tmps)=true /\ s1.h=s.h /\ s1.cnt=s.cnt:=λ a hF=>wantL_sound hwl hF (λ p hp=>hob p (b2 p (d2 p hp)))
        refine λ hcl a hF=>?_
        obtain ⟨c1,c2,c3⟩:=hws a hF
        have hro:=ev_ro he (a4.trans hw)
        refine (TD.vo (v:=v) hs hokw ho' (λ a hF=>hF.put hp) (λ a hF'=>.inl ⟨(hws a hF').1,λ X w hRel hB=>?_⟩) hRd (.inl hokv)
          (TD.vals_gen hs hRd hR is _ b' L1 L' s2 s' h (by rw [hro,c2];exact hh) (by rw [d3,a3];exact hr) (d4.trans (a4.trans hw)) heq hob hk):TD P N D F w0 ops hards Rd (fuel+is.length+1) b L H Q) hcl a hF
        have hRel':=perm_front hRel
        have hsh:s1.h=H:=by rw [c2];exact hh
        obtain ⟨w1,e1,e2,e3,e4,e5⟩:=ev_sound (w:=w) (F:=X++F) he (λ p hp=>heq p (b1 p hp)) (λ p hp=>hob p (b2 p hp)) (by rw [hsh];exact hRel') (by rw [a3,hr];exact λ y hy=>List.mem_append_right _ (hR y hy)) (λ e=>by rw [a4,hw] at e;cases e)
        obtain rfl:=e5 (a4.trans hw)
        unfold gives
        rw [hF'.exec hok,e1]
        exact ⟨rfl,hRel,hB⟩
      · split at h
        case h_2=>cases h
        rename_i v s2 he
        split at h
        case h_2=>cases h
        rename_i L1 hp
        obtain ⟨d1,d2,d3,d4⟩:=ev_keeps he
        obtain ⟨b1,b2⟩:=segV_keeps is _ _ _ _ _ _ h
        have hws:∀ a,Fm N D L a -> Region.wanted o (yielded ops a.tmps)=true /\ s1.h=s.h /\ s1.cnt=s.cnt:=λ a hF=>wantL_sound hwl hF (λ p hp=>hob p (b2 p (d2 p hp)))
        have hvo:∀ a,Fm N D L a -> ∀ H',(∀ x ∈ Rd,x ∈ H') -> VO P ops F w0 o v a H':=λ a hF' H' hin=>.inl ⟨(hws a hF').1,λ X w hRel hB=>by
          obtain ⟨w1,e1,e2,e3,e4,e5⟩:=ev_sound (w:=w) (F:=X++(H'++F)) he (λ p hp=>heq p (b1 p hp)) (λ p hp=>hob p (b2 p hp)) hRel (λ y hy=>by
            rcases List.mem_append.1 hy with hy | hy
            · exact List.mem_append_right _ (List.mem_append_left _ (hin y hy))
            · exact List.mem_append_right _ (List.mem_append_right _ (hR y (by rw [<- hr,<- a3];exact hy)))) (λ e=>by rw [a4,hw] at e;cases e)
          obtain rfl:=e5 (a4.trans hw)
          unfold gives
          rw [hF'.exec hok,e1]
          exact ⟨rfl,hRel,hB⟩⟩
        refine λ hcl a hF=>?_
        obtain ⟨c1,c2,c3⟩:=hws a hF
        exact (TD.vo (v:=v) hs hokw ho' (λ a hF=>hF.put hp) (λ a hF'=>hvo a hF' H hRd) hRd (.inr hvo)
          (TD.vals_gen hs hRd hR is _ b' L1 L' _ s' h (by rw [<- hh,<- c2]) (by rw [<- hr,<- a3]) (d4.trans (a4.trans hw)) heq hob hk):TD P N D F w0 ops hards Rd (fuel+is.length+1) b L H Q) hcl a hF
theorem rd_in {H Rd:HL} (ix:List Nat) (h:ix.filterMap (H[·]?)=Rd):∀ x ∈ Rd,x ∈ H:=by
  subst h
  intro x hx
  obtain ⟨i,_,hi⟩:=List.mem_filterMap.1 hx
  exact List.mem_of_getElem? hi
theorem TD.all (rs:List Nat) (hr:readyL ops.toList listed=rs) (hne:rs ≠ []) (fuel':Nat) (hf:fuel=fuel'+1)
    (h:∀ i ∈ rs,∀ a,Fm N D L a -> Closed ops ⟨setAt listed i true⟩ -> OPJ P ops F w0 hards Rd i a H (JJ P ops Q F w0 hards Rd fuel' ⟨setAt listed i true⟩)):TD P N D F w0 ops hards Rd fuel listed L H Q:=by
  subst hf
  intro hcl a hF
  have hr':=(readyL_eq ops listed).trans hr
  refine ⟨λ e=>absurd (hr'.symm.trans e) hne,λ i hi=>?_⟩
  rw [set_bits]
  refine h i (hr' ▸ hi) a hF ?_
  rw [<- set_bits]
  exact hcl.set hi
theorem call_gives {i:Nat} {R:HL} {hints:List Hint} {dst:Option Tmp} {f:FuncId} {args:Array Value} {H1:HL} {E:List Nat} {Ob:List Prop} {o:Oper} (ho:ops.toList[i]?=some o) {Hp Hr:HL} {Rv:Value -> HL -> Prop}
    (h:∀ n0,callE P n0 N ops.toList i L H R hints=some (dst,f,args,H1,E,E,Ob)) (hR:∀ y ∈ R,y ∈ F) (hob:AllP Ob) (hperm:(Hp++Hr).Perm H1) (hc:Sp P f args Hp (Hr++F) Rv) (a:Act) (hF:Fm N D L a) :
    Region.wanted o (yielded ops a.tmps)=true /\ ∀ w,Rel (H++F) w -> Below 0 w0 w -> gives P o a w λ u w'=>∃ H',Rv u H' /\ Rel ((H'++Hr)++F) w' /\ Below 0 w w':=by
  have key:∀ n0,∃ s s',wantL ops.toList o L ⟨H,R,hints,0,[],[],true⟩=some (true,s) /\ okOps o.op L=true /\ ev P n0 o (rho L) s=some (.enter f args,s') /\ s'.h=H1 /\ s'.eq.map (·.1)=E /\ s'.eq.map (·.2)=E /\ s'.ob=Ob:=λ n0=>by
    obtain ⟨o',s,s',ho',hwl,hok,hev,_,hh,e1,e2,e3⟩:=callE_spec (h n0)
    obtain rfl:o'=o:=Option.some.inj (ho'.symm.trans ho)
    exact ⟨s,s',hwl,hok,hev,hh,e1,e2,e3⟩
  obtain ⟨s,s',hwl,hok,hev,hh,e1,e2,e3⟩:=key 0
  obtain ⟨d1,d2,d3,d4⟩:=ev_keeps hev
  refine ⟨(wantL_sound hwl hF (λ p hp=>AllP.mem hob p (by rw [<- e3];exact d2 p hp))).1,λ w hRel hB=>?_⟩
  obtain ⟨s,s',hwl,hok,hev,hh,e1,e2,e3⟩:=key w.heap.size
  obtain ⟨a1,a2,a3,a4⟩:=wantL_keeps hwl
  obtain ⟨d1,d2,d3,d4⟩:=ev_keeps hev
  have hobs:∀ p ∈ s'.ob,p:=by rw [e3];exact AllP.mem hob
  obtain ⟨c1,c2,c3⟩:=wantL_sound hwl hF (λ p hp=>hobs p (d2 p hp))
  obtain ⟨w1,r1,r2,r3,r4,r5⟩:=ev_sound (w:=w) (F:=F) hev (pairs_eq e1 e2) hobs (by rw [c2];exact hRel) (by rw [a3];exact hR) (λ _=>by rw [c3];rfl)
  unfold gives
  rw [hF.exec hok,r1]
  rw [hh] at r2
  refine (hc w1 (by rw [<- List.append_assoc];exact r2.perm (hperm.append_right F))).mono ?_
  rintro e w2 ⟨v,H',rfl,hv,hR2,hB2⟩
  exact ⟨H',hv,by rw [List.append_assoc];exact hR2,r3.trans hB2⟩
theorem TD.one (i:Nat) (hr:readyL ops.toList listed=[i]) (fuel':Nat) (hf:fuel=fuel'+1)
    (h:∀ a,Fm N D L a -> Closed ops ⟨setAt listed i true⟩ -> OPJ P ops F w0 hards Rd i a H (JJ P ops Q F w0 hards Rd fuel' ⟨setAt listed i true⟩)):TD P N D F w0 ops hards Rd fuel listed L H Q :=
  TD.all [i] hr (by simp) fuel' hf λ j hj a hF hcl=>by
    obtain rfl:j=i:=by simpa using hj
    exact h a hF hcl
theorem OPJ.perm {hards:List Nat} {Rd:HL} {i:Nat} {a:Act} {H H':HL} {K K':Act -> HL -> Prop} (hK:∀ a H1 H2,H1.Perm H2 -> K a H1 -> K' a H2) (hp:H.Perm H') (h:OPJ P ops F w0 hards Rd i a H K):OPJ P ops F w0 hards Rd i a H' K':=by
  unfold OPJ at h ⊢
  cases ho:ops[i]? with
  | none=>rw [ho] at h;exact h
  | some o =>
    rw [ho] at h
    simp only at h ⊢
    split
    · rename_i hw
      rw [if_pos hw] at h
      intro w hR hB
      refine gives_mono (h w (hR.perm (hp.append_right F)) hB) ?_
      rintro u w' ⟨H1,⟨s1,s2⟩,k1,k2,k3⟩
      by_cases hi:i ∈ hards
      · exact ⟨H1,⟨λ e=>absurd hi e,s2⟩,hK _ _ _ (List.Perm.refl _) k1,k2,k3⟩
      · obtain ⟨X,rfl⟩:=s1 hi
        have hpx:(X++H).Perm (X++H'):=hp.append_left X
        exact ⟨X++H',⟨λ _=>⟨X,rfl⟩,λ e=>absurd e hi⟩,hK _ _ _ hpx k1,k2.perm (hpx.symm.append_right F),k3⟩
    · rename_i hw
      rw [if_neg hw] at h
      exact hK _ _ _ hp h
theorem JJ.perm {hards:List Nat} {Rd:HL}:∀ (fuel:Nat) (listed:Array Bool) (a:Act) (H H':HL),H.Perm H' -> JJ P ops Q F w0 hards Rd fuel listed a H -> JJ P ops Q F w0 hards Rd fuel listed a H'
  | 0,listed,a,H,H',hp,h=>⟨h.1,λ w hR hB=>h.2 w (hR.perm (hp.append_right F)) hB⟩
  | fuel+1,listed,a,H,H',hp,h=>⟨λ e w hR hB=>h.1 e w (hR.perm (hp.append_right F)) hB,λ i hi=>OPJ.perm (λ a H1 H2 hp h=>JJ.perm fuel _ a H1 H2 hp h) hp (h.2 i hi)⟩
theorem TD.two (i j:Nat) (hr:readyL ops.toList listed=[i,j]) (fuel':Nat) (hf:fuel=fuel'+1)
    (h1:∀ a,Fm N D L a -> Closed ops ⟨setAt listed i true⟩ -> OPJ P ops F w0 hards Rd i a H (JJ P ops Q F w0 hards Rd fuel' ⟨setAt listed i true⟩))
    (h2:∀ a,Fm N D L a -> Closed ops ⟨setAt listed j true⟩ -> OPJ P ops F w0 hards Rd j a H (JJ P ops Q F w0 hards Rd fuel' ⟨setAt listed j true⟩)):TD P N D F w0 ops hards Rd fuel listed L H Q :=
  TD.all [i,j] hr (by simp) fuel' hf λ m hm a hF hcl=>by
    have:m=i \/ m=j:=by simpa using hm
    rcases this with rfl | rfl
    · exact h1 a hF hcl
    · exact h2 a hF hcl
end
end Go.Proofs.YtkhifpbokgabbaaGreatDoor
