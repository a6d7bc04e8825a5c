import Derived.Test.YtdppjkjbghbnjaaGreatDoorY07
import Derived.Test.YtdppjkjbghbnjaaGreatDoorY10
set_option maxHeartbeats 4000000
set_option maxRecDepth 100000
set_option linter.all false
namespace Go.Proofs.YtdppjkjbghbnjaaGreatDoor
open Go.RowKit
noncomputable section
def yl(ν:Nu)(h:Nat):Nat:=match ν h with
 | some (b,_)=>b
 | none=>0
def SN(ν:Nu)(h c:Nat):Nat:=match Nat.blt c nT with
 | true=>c
 | false=>match ν h with
  | some (_,K)=>K-(c-nT)
  | none=>0
mutual
def oE(ν:Nu):Value -> Value
 | .pointer (some a)=>.pointer (some ⟨yl ν a.block,a.off,none⟩)
 | .slice (some a) n c=>.slice (some ⟨yl ν a.block,a.off,none⟩) n (SN ν a.block c)
 | .map (some h)=>.map (some (yl ν h))
 | .iface t v=>.iface t (oE ν v)
 | .agg c=>.agg (KL ν c)
 | .tuple c=>.tuple (KL ν c)
 | v=>v
def KL(ν:Nu):Array Value -> Array Value
 | ⟨l⟩=>⟨KM ν l⟩
def KM(ν:Nu):List Value -> List Value
 | []=>[]
 | v::l=>oE ν v::KM ν l
end
mutual
def uz:Value -> Bool
 | .iface _ v=>uz v
 | .func f a c=>pl (.func f a c)
 | .agg c=>R5 c
 | .tuple c=>R5 c
 | .chan _=>false
 | _=>true
def R5:Array Value -> Bool
 | ⟨l⟩=>PF l
def PF:List Value -> Bool
 | []=>true
 | v::l=>match uz v with
  | true=>PF l
  | false=>false
end
theorem ym{ν:Nu}:∀ {l l':List Value},l.length=l'.length -> (∀ (i:Nat) (v v':Value),l[i]?=some v -> l'[i]?=some v' -> uz v=true -> v'=oE ν v) -> PF l=true -> l'=KM ν l
 | [],[],_,_,_=>rfl
 | [],_::_,e,_,_=>by simp at e
 | _::_,[],e,_,_=>by simp at e
 | v::l,v'::l',e,h,ho=>by
  rw[PF] at ho;cases hv:uz v with
  | false=>rw[hv] at ho;cases ho
  | true =>
   rw[hv] at ho;have a1:=h 0 v v' rfl rfl hv;have a2:=ym (l:=l) (l':=l') (by simpa using e) (λ i a b h1 h2=>h (i+1) a b (by simpa using h1) (by simpa using h2)) ho;rw[KM,<- a1,<- a2]
theorem EO{ν:Nu}{v v':Value}(h:VRi ν v v'):uz v=true -> v'=oE ν v:=by
 induction h with
 | atom v h =>
  intro _;cases v with
  | pointer a=>cases a with
   | none=>rfl
   | some a=>simp[cV] at h
  | slice a n c=>cases a with
   | none=>rfl
   | some a=>simp[cV] at h
  | map r=>cases r with
   | none=>rfl
   | some r=>simp[cV] at h
  | iface t v=>simp[cV] at h
  | agg c=>simp[cV] at h
  | tuple c=>simp[cV] at h
  | _=>rfl
 | ptr o h=>intro _;simp[oE,yl,h]
 | @slice hd b K c c' o n h hc =>
  intro _;simp only[oE,yl,SN,h];congr 1;cases hb:Nat.blt c nT with
  | true=>exact hc.1 (Eq.mp Nat.blt_eq hb)
  | false =>
   have h2:=hc.2 (mD hb);simp only;omega
 | map h=>intro _;simp[oE,yl,h]
 | func hf e1 h1 e2 h2 _ _ =>
  intro ho;have:=VRi.plain_eq (VRi.func hf e1 h1 e2 h2) (by simpa only[uz] using ho);rw[this];rfl
 | iface t _ ih=>intro ho;rw[oE,<- ih (by simpa only[uz] using ho)]
 | @agg c c' e _ ih =>
  intro ho;obtain⟨l⟩:=c;obtain⟨l'⟩:=c';simp only[List.getElem?_toArray] at ih;rw[oE,KL,ym (l:=l) (l':=l') e ih (by simpa only[uz,R5] using ho)]
 | @tuple c c' e _ ih =>
  intro ho;obtain⟨l⟩:=c;obtain⟨l'⟩:=c';simp only[List.getElem?_toArray] at ih;rw[oE,KL,ym (l:=l) (l':=l') e ih (by simpa only[uz,R5] using ho)]
theorem M5{ν:Nu}{l l':List Value}(h:LR ν l l'):PF l=true -> l'=l.map (oE ν):=by
 induction h with
 | nil=>intro _;rfl
 | @cons v v' l l' h _ ih =>
  intro ho;rw[PF] at ho;cases hv:uz v with
  | false=>rw[hv] at ho;cases ho
  | true =>
   rw[hv] at ho;rw[List.map_cons,EO h hv,ih ho]
abbrev PB:=Nat × List Value × TypeId
def M6(H:AH)(p:PB):Bool:=match cw H p.1 with
 | some (.cells n t ty _ _)=>match Nat.beq n (iC p.2.1),Nat.beq ty p.2.2 with
  | true,true=>match sC (jf t 0 n) p.2.1 with
   | true=>PF p.2.1
   | false=>false
  | _,_=>false
 | _=>false
def EP(H:AH):List PB -> Bool
 | []=>true
 | p::l=>match M6 H p with
  | true=>EP H l
  | false=>false
def rp(ν:Nu)(w:World)(p:PB):List Value:=match w.heap[yl ν p.1]? with
 | some (.cells c _ _)=>c.toList.drop p.2.1.length
 | _=>[]
def uB(ν:Nu)(rest:PB -> List Value)(p:PB):Nat × Blk:=(yl ν p.1,.lit (p.2.1.map (oE ν)++rest p) p.2.2 (0,0))
theorem EQ(l l':List Value)(h:sC l l'=true):l=l':=by
 induction l generalizing l' with
 | nil=>cases l' with
  | nil=>rfl
  | cons v l'=>simp[sC] at h
 | cons v l ih=>cases l' with
  | nil=>simp[sC] at h
  | cons v' l' =>
   rw[sC] at h;cases hv:vg v v' with
   | false=>rw[hv] at h;cases h
   | true=>rw[hv] at h;rw[Dg _ _ hv,ih _ h]
theorem KN{ν:Nu}{H:AH}{F:HL}{w:World}(hH:HR ν H F w){p:PB}(hc:M6 H p=true) :
  (∃K,ν p.1=some (yl ν p.1,K)) /\ (∃b,cw H p.1=some b) /\ w.heap[yl ν p.1]?=some (uB ν (rp ν w) p).2.den:=by
 unfold M6 at hc;split at hc
 case h_2=>cases hc
 rename_i n t ty ww ro hb;split at hc
 case h_2=>cases hc
 rename_i e1 e2;have e1:=Nat.eq_of_beq_eq_true e1;have e2:=Nat.eq_of_beq_eq_true e2;split at hc
 case h_2=>cases hc
 rename_i e3;have e3:=EQ _ _ e3;obtain⟨r,K,o,h1,h2,h3⟩:=hH.blk _ _ hb;have hn:yl ν p.1=r:=by simp[yl,h1]
 have hcc:=hH.cells hb h1;obtain⟨c,ty',fz,g1,g2⟩:=hcc;refine⟨⟨K,by rw[hn];exact h1⟩,⟨_,hb⟩,?_⟩;rw[hn,g1];have hr:=lE g2.le g2.get n 0 (by omega);rw[e3] at hr;have hl:=M5 hr hc;rw[fg] at e1;simp only[uB,Blk.den,rp,hn,g1,g2.ty,g2.fz,<- e2];congr 2;apply Array.ext';simp only;rw[<- hl,List.drop_zero,<- e1,List.take_append_drop]
def Bi:List PB -> AH
 | []=>.lf
 | p::l=>dw (Bi l) p.1 (some (.cells (iC p.2.1) (eF undef p.2.1 0 .lf) p.2.2 1 true))
def Bj(tabs:List PB)(G:Nat):Nu:=λ h=>if h<G then some (h,match tabs.find? (λ p=>p.1 == h) with|some p=>p.2.1.length|none=>0) else none
def qs(p:PB):Nat × Blk:=(p.1,.lit p.2.1 p.2.2 (0,0))
def Bk(G:Nat):List PB -> Bool
 | []=>true
 | p::l=>match Nat.blt p.1 G,An p.2.1,l.any (λ q=>q.1 == p.1) with
  | true,true,false=>Bk G l
  | _,_,_=>false
end
noncomputable section
theorem ES:∀ (tabs:List PB) (h:Nat),cw (Bi tabs) h=match tabs.find? (λ p=>p.1 == h) with
  | some p=>some (.cells (iC p.2.1) (eF undef p.2.1 0 .lf) p.2.2 1 true)
  | none=>none
 | [],h=>C5 _
 | p::l,h=>by
  rw[Bi,ee,ES l h]
  by_cases e:p.1=h
  ·rw[if_pos e,List.find?_cons_of_pos (by simpa using e)]
  ·rw[if_neg e,List.find?_cons_of_neg (by simpa using e)]
theorem od{G:Nat}:∀ {tabs:List PB},Bk G tabs=true -> ∀p∈tabs,p.1<G /\ An p.2.1=true
 | [],_,p,hp=>by simp at hp
 | q::l,h,p,hp=>by
  rw[Bk] at h;split at h
  ·rename_i h1 h2 h3;rcases List.mem_cons.1 hp with rfl|hp
   ·exact⟨Eq.mp Nat.blt_eq h1,h2⟩
   ·exact od h p hp
  ·cases h
theorem ET:∀ {l:List Value},An l=true -> ∀ {i:Nat} {v:Value},l[i]?=some v -> pl v=true
 | [],_,i,v,h=>by simp at h
 | x::l,hp,i,v,h=>by
  rw[An] at hp;split at hp
  ·rename_i hx;cases i with
   | zero=>simp at h;rw[<- h];exact hx
   | succ i=>exact ET hp (by simpa using h)
  ·cases hp
theorem rq{tabs:List PB}{h:Nat}{p:PB}(e:tabs.find? (λ p=>p.1 == h)=some p):p∈tabs /\ p.1=h :=
 ⟨List.mem_of_find?_eq_some e,by simpa using List.find?_some e⟩
section
variable {tabs picks:List PB} {G:Nat} {F:HL} {w:World}
theorem PG(ht:Bk G tabs=true)(hR:Rel (tabs.map qs++F) w):HR (Bj tabs G) (Bi tabs) F w:=by
 have key:∀h b,cw (Bi tabs) h=some b -> ∃p,tabs.find? (λ p=>p.1 == h)=some p /\ b=.cells (iC p.2.1) (eF undef p.2.1 0 .lf) p.2.2 1 true:=λ h b hb=>by
  rw[ES] at hb;split at hb
  ·rename_i p hp;cases hb;exact⟨p,hp,rfl⟩
  ·cases hb
 refine⟨λ h b hb=>?_,λ h₁ h₂ b₁ b₂ r K₁ K₂ _ _ e1 e2=>?_,λ x hx=>hR.holds x (List.mem_append_right _ hx),λ h b r K hb e1 x hx=>?_⟩
 ·obtain⟨p,hp,rfl⟩:=key h b hb;obtain⟨hm,rfl⟩:=rq hp;obtain⟨iS,hpl⟩:=od ht p hm;refine⟨p.1,p.2.1.length,.cells ⟨p.2.1⟩ p.2.2 (0,0),by simp only[Bj,if_pos iS,hp],?_,?_⟩
  ·exact hR.holds (qs p) (List.mem_append_left _ (List.mem_map.2 ⟨p,hm,rfl⟩))
  ·refine⟨rfl,by rw[fg];exact Nat.le_refl _,rfl,λ i hi=>?_,λ _=>by simp⟩;rw[fg] at hi;refine⟨p.2.1[i],by simp[hi],?_⟩;rw[m8 hi];exact VRi.plain_refl _ (ET hpl (List.getElem?_eq_getElem hi))
 ·unfold Bj at e1 e2;split at e1
  ·split at e2
   ·simp only[Option.some.injEq,Prod.mk.injEq] at e1 e2;rw[e1.1,e2.1]
   ·cases e2
  ·cases e1
 ·obtain⟨p,hp,rfl⟩:=key h b hb;obtain⟨hm,rfl⟩:=rq hp;have hr:r=p.1:=by
   unfold Bj at e1;split at e1
   ·simp only[Option.some.injEq,Prod.mk.injEq] at e1;exact e1.1.symm
   ·cases e1
  intro e;have hn:=hR.nodup;rw[List.map_append,List.nodup_append] at hn;exact hn.2.2 p.1 (by rw[List.map_map];exact List.mem_map.2 ⟨p,hm,rfl⟩) x.1 (List.mem_map.2 ⟨x,hx,rfl⟩) (by rw[e,hr])
def M7(H:AH)(p:PB):Bool:=match cw H p.1 with
 | some (.cells n t ty ww _)=>match Nat.beq n (iC p.2.1),Nat.beq ty p.2.2,Nat.beq ww 1 with
  | true,true,true=>sC (jf t 0 n) p.2.1
  | _,_,_=>false
 | _=>false
def EU(H:AH):List PB -> Bool
 | []=>true
 | p::l=>match M7 H p with
  | true=>EU H l
  | false=>false
theorem xa{H:AH}:∀ {l:List PB},EU H l=true -> ∀p∈l,M7 H p=true
 | [],_,p,hp=>by simp at hp
 | q::l,h,p,hp=>by
  rw[EU] at h;split at h
  ·rename_i h1;rcases List.mem_cons.1 hp with rfl|hp
   ·exact h1
   ·exact xa h p hp
  ·cases h
theorem xb{H:AH}:∀ {l:List PB},EP H l=true -> ∀p∈l,M6 H p=true
 | [],_,p,hp=>by simp at hp
 | q::l,h,p,hp=>by
  rw[EP] at h;split at h
  ·rename_i h1;rcases List.mem_cons.1 hp with rfl|hp
   ·exact h1
   ·exact xb h p hp
  ·cases h
theorem LR.plain_eq{ν:Nu}{l l':List Value}(h:LR ν l l'):An l=true -> l'=l:=by
 induction h with
 | nil=>intro _;rfl
 | @cons v v' l l' h _ ih =>
  intro hp;rw[An] at hp;split at hp
  ·rename_i hv;rw[VRi.plain_eq h hv,ih hp]
  ·cases hp
theorem M8{ν:Nu}{H:AH}(hH:HR ν H F w){p:PB}(hc:M7 H p=true)(hp:An p.2.1=true)(hν:ν p.1=some (p.1,p.2.1.length)):w.heap[p.1]?=some (qs p).2.den /\ ∃b,cw H p.1=some b:=by
 unfold M7 at hc;split at hc
 case h_2=>cases hc
 rename_i n t ty ww ro hb;split at hc
 case h_2=>cases hc
 rename_i e1 e2 e3;have e1:=Nat.eq_of_beq_eq_true e1;have e2:=Nat.eq_of_beq_eq_true e2;have e3:=Nat.eq_of_beq_eq_true e3;have e4:=EQ _ _ hc;obtain⟨c,ty',fz,g1,g2⟩:=hH.cells hb hν;refine⟨?_,_,hb⟩;have hr:=lE g2.le g2.get n 0 (by omega);rw[e4] at hr;have hl:=hr.plain_eq hp;have S4:=g2.gr (by omega);rw[e3,Nat.mul_one] at S4;rw[fg] at e1;rw[g1,g2.ty,g2.fz,e2];simp only[qs,Blk.den];congr 2;apply Array.ext';rw[List.drop_zero] at hl;rw[<- hl,List.take_of_length_le];have:c.toList.length=c.size:=rfl;omega
theorem uC:∀ {l:List PB},(l.map (·.1)).Nodup -> ∀ {p q:PB},p∈l -> q∈l -> q.1=p.1 -> q=p
 | [],_,p,q,hp,_,_=>by simp at hp
 | x::l,hd,p,q,hp,hq,e=>by
  simp only[List.map_cons,List.nodup_cons] at hd;rcases List.mem_cons.1 hp with h1|h1 <;> rcases List.mem_cons.1 hq with h2|h2
  ·rw[h1,h2]
  ·exact absurd (List.mem_map.2 ⟨q,h2,by rw[e,h1]⟩) hd.1
  ·exact absurd (List.mem_map.2 ⟨p,h1,by rw[<- e,h2]⟩) hd.1
  ·exact uC hd.2 h1 h2 e
def PH(tabs picks:List PB)(v0:Value):Option Rs -> Bool
 | some (.fn v H _)=>match vg v v0,uz v0,EU H tabs with
  | true,true,true=>EP H picks
  | _,_,_=>false
 | _=>false
theorem LR.plain_refl{ν:Nu}:∀ {l:List Value},An l=true -> LR ν l l
 | [],_=>.nil
 | v::l,h=>by
  rw[An] at h;split at h
  ·rename_i hv;exact .cons (VRi.plain_refl v hv) (LR.plain_refl h)
  ·cases h
theorem xc{P:Program}(hm:P.follows .mixedOrders=true){k n0:Nat}{f:FuncId}{args:List Value}{v0:Value}(hG:Nat.ble G n0=true)(ht:Bk G tabs=true)(ha:An args=true)
  (VM:(tabs.map (·.1)++picks.map (·.1)).Nodup) (iN:PH tabs picks v0 (KJ P G k (.fn f args (Bi tabs) n0))=true) :
  Sp P f ⟨args⟩ (tabs.map qs) F λ v' H'=>∃ν rest,v'=oE ν v0 /\ H'=tabs.map qs++picks.map (uB ν rest):=by
 intro w hR;have hG:=cj hG;cases WB:KJ P G k (.fn f args (Bi tabs) n0) with
 | none=>rw[WB] at iN;cases iN
 | some res=>cases res with
  | cd e s=>rw[WB] at iN;cases iN
  | fn v H n' =>
   rw[WB] at iN;simp only[PH] at iN;split at iN
   case h_2=>cases iN
   rename_i q1 q2 q3;rw[EN] at WB;obtain⟨hn,Vy⟩:=EA hm k _ _ WB;have iS:∀p∈tabs,p.1<G:=λ p hp=>(od ht p hp).1;refine(Vy (Bj tabs G) F w args (λ k hk=>⟨_,if_pos hk⟩) (λ h h1 h2=>by simp only[Bj];rw[if_neg (by omega)]) (PG ht hR) (LR.plain_refl ha)).mono ?_;rintro e w' ⟨ν,v',rfl,hv,al4,hH,amr⟩;rw[Dg _ _ q1] at hv;have hνt:∀p∈tabs,ν p.1=Bj tabs G p.1:=λ p hp=>al4.out _ (.inl (by have:=iS p hp;omega));have Z7:∀p∈tabs,ν p.1=some (p.1,p.2.1.length):=λ p hp=>by
    rw[hνt p hp];simp only[Bj,if_pos (iS p hp)];congr 2;have hd:(tabs.map (·.1)).Nodup:=(List.nodup_append.1 VM).1;cases hf:tabs.find? (λ q=>q.1 == p.1) with
    | none=>exact absurd (List.find?_eq_none.1 hf p hp) (by simp)
    | some q =>
     obtain⟨hq,Ut⟩:=rq hf;have:q=p:=uC hd hp hq Ut;simp[this]
   have agZ:∀p∈tabs,w'.heap[p.1]?=some (qs p).2.den /\ ∃b,cw H p.1=some b:=λ p hp=>M8 hH (xa q3 p hp) (od ht p hp).2 (Z7 p hp);have hpk:∀p∈picks,(∃K,ν p.1=some (yl ν p.1,K)) /\ (∃b,cw H p.1=some b) /\ w'.heap[yl ν p.1]?=some (uB ν (rp ν w') p).2.den:=λ p hp=>KN hH (xb iN p hp);refine⟨v',tabs.map qs++picks.map (uB ν (rp ν w')),rfl,⟨ν,rp ν w',EO hv q2,rfl⟩,⟨?_,?_⟩,amr⟩
   ·intro x hx;rcases List.mem_append.1 hx with hx|hx
    ·rcases List.mem_append.1 hx with hx|hx
     ·obtain⟨p,hp,rfl⟩:=List.mem_map.1 hx;exact(agZ p hp).1
     ·obtain⟨p,hp,rfl⟩:=List.mem_map.1 hx;exact(hpk p hp).2.2
    ·exact hH.frm x hx
   ·-- the aid blocks
    have Tc:∀h∈tabs.map (·.1)++picks.map (·.1),∃K b,ν h=some (yl ν h,K) /\ cw H h=some b:=λ h hh=>by
     rcases List.mem_append.1 hh with hh|hh
     ·obtain⟨p,hp,rfl⟩:=List.mem_map.1 hh;obtain⟨b,hb⟩:=(agZ p hp).2;exact⟨p.2.1.length,b,by simp[yl,Z7 p hp],hb⟩
     ·obtain⟨p,hp,rfl⟩:=List.mem_map.1 hh;obtain⟨⟨K,h1⟩,⟨b,hb⟩,-⟩:=hpk p hp;exact⟨K,b,h1,hb⟩
    have e1:(tabs.map qs++picks.map (uB ν (rp ν w'))).map (·.1)=(tabs.map (·.1)++picks.map (·.1)).map (yl ν):=by
     simp only[List.map_append,List.map_map];congr 1;apply List.map_congr_left;intro p hp;simp[qs,yl,Z7 p hp]
    rw[List.map_append,List.nodup_append,e1];refine⟨?_,?_,λ a ha b hb=>?_⟩
    ·rw[List.Nodup,List.pairwise_map];refine(List.pairwise_iff_forall_sublist.2 λ {a b} hs=>?_);have ha':=Tc a (hs.subset (by simp));have V6:=Tc b (hs.subset (by simp));obtain⟨K1,b1,x1,x2⟩:=ha';obtain⟨K2,b2,y1,y2⟩:=V6;intro e;have hab:a=b:=hH.inj _ _ _ _ _ _ _ x2 y2 x1 (by rw[e];exact y1);have:=VM.sublist hs;simp[hab] at this
    ·have:=hR.nodup;rw[List.map_append,List.nodup_append] at this;exact this.2.1
    ·obtain⟨h,hh,rfl⟩:=List.mem_map.1 ha;obtain⟨x,hx,rfl⟩:=List.mem_map.1 hb;obtain⟨K,b,g1,g2⟩:=Tc h hh;exact(hH.apt _ _ _ _ g2 g1 x hx).symm
end
end
theorem KO{P:Program}{f:FuncId}{args:Array Value}{x:Nat × Blk}{F:HL}{Q:Value -> HL -> Prop}(hx:x∈F)(h:∀F0,Sp P f args [x] F0 λ u H'=>∃Hp,Q u Hp /\ H'=[x]++Hp):Sp P f args [] F Q:=by
 obtain⟨l1,l2,rfl⟩:=List.append_of_mem hx;have hp:∀H:HL,([x]++H++(l1++l2)).Perm (H++(l1++x::l2)):=λ H=>by
  refine List.Perm.trans ?_ (List.Perm.append_left H List.perm_middle.symm);show (x::(H++(l1++l2))).Perm (H++x::(l1++l2));exact List.perm_middle.symm
 intro w hR;have hR1:Rel ([x]++(l1++l2)) w:=hR.perm (by have:=hp [];simpa using this);refine(h (l1++l2) w hR1).mono ?_;rintro e w' ⟨v,H',he,⟨Hp,hq,rfl⟩,S6,hb⟩;exact⟨v,Hp,he,hq,S6.perm (hp Hp).symm,hb⟩
noncomputable section
def iv(x:Int):Value:=.int .i64 x
def yn:List Value:=[iv 0,iv 0,iv 0,iv 1,iv 0,iv 1,iv 1,iv 0,iv 1,iv 1,iv 2,iv 0,iv 0,iv 1,iv 0,iv 1,iv 0,iv 1,iv 2,iv 1,iv 2,iv 1,iv 2,iv 1,iv 2,iv 1,iv 1,iv 1,iv 2,iv 1,iv 2,iv 1,iv 2,iv 1,iv 1,iv 1,iv 0,iv 0,iv 1,iv 0,iv 2,iv 0,iv 0,iv 0]
def oQ:List PB:=[(0,yn,270)]
def Rk:String:="on tick { n = n + 1; if n >= 3 { effect 1, n; n = 0; } }"
def Rl:String:="on act { vx[self] = vx[self] + 100 * other; effect 2, self; } on hit { a[self] = a[self] + 1; effect 3, other; }"
def Rm:String:="on hit { if hit[other] == self + 1 && a[self] < a[other] { vx[self] = -vx[self]; b[self] = tick; } else { stop; } effect 4, a[self]; }"
def Rn:String:="on tick { i = 0; while i < 4 { b[i] = b[i] + still[i]; i = i + 1; } s = s + x[0] / 100; effect 5, s; } on act { s = 0; }"
def Rp:List Value:=[iv 2,iv 0,iv 1,iv 1,iv 9,iv 0,iv 3,iv 0,iv 1,iv 3,iv 2,iv 0,iv 15,iv 0,iv 19,iv 14,iv 1,iv 1,iv 2,iv 0,iv 20,iv 0,iv 1,iv 0,iv 3,iv 0,iv 18,iv 14,iv 21,iv 0]
def Rq:List Value:=[iv 6,iv 0,iv 6,iv 0,iv 4,iv 2,iv 1,iv 100,iv 7,iv 0,iv 11,iv 0,iv 9,iv 0,iv 5,iv 2,iv 1,iv 2,iv 6,iv 0,iv 20,iv 0,iv 21,iv 0,iv 6,iv 0,iv 6,iv 0,iv 4,iv 4,iv 1,iv 1,iv 9,iv 0,iv 5,iv 4,iv 1,iv 3,iv 7,iv 0,iv 20,iv 0,iv 21,iv 0]
def Rt:List Value:=[iv 7,iv 0,iv 4,iv 6,iv 6,iv 0,iv 1,iv 1,iv 9,iv 0,iv 16,iv 0,iv 19,iv 13,iv 6,iv 0,iv 4,iv 4,iv 7,iv 0,iv 4,iv 4,iv 14,iv 0,iv 18,iv 14,iv 1,iv 0,iv 19,iv 24,iv 6,iv 0,iv 6,iv 0,iv 4,iv 2,iv 13,iv 0,iv 5,iv 2,iv 6,iv 0,iv 8,iv 0,iv 5,iv 5,iv 18,iv 25,iv 21,iv 0,iv 1,iv 4,iv 6,iv 0,iv 4,iv 4,iv 20,iv 0,iv 21,iv 0]
def Ru:List Value:=[iv 1,iv 0,iv 3,iv 0,iv 21,iv 0,iv 1,iv 0,iv 3,iv 1,iv 2,iv 1,iv 1,iv 4,iv 14,iv 0,iv 19,iv 21,iv 2,iv 1,iv 2,iv 1,iv 4,iv 5,iv 2,iv 1,iv 4,iv 7,iv 9,iv 0,iv 5,iv 5,iv 2,iv 1,iv 1,iv 1,iv 9,iv 0,iv 3,iv 1,iv 18,iv 5,iv 2,iv 0,iv 1,iv 0,iv 4,iv 0,iv 1,iv 100,iv 12,iv 0,iv 9,iv 0,iv 3,iv 0,iv 1,iv 5,iv 2,iv 0,iv 20,iv 0,iv 21,iv 0]
def G7(h len:Nat)(a b c:Int):Value:=.tuple ⟨[.agg ⟨[.slice (some ⟨h,0,none⟩) len nT,iv a,iv b,iv c]⟩,iv 0]⟩
def SO:Value:=.tuple ⟨[.agg ⟨[.slice none 0 0,iv (-1),iv (-1),iv (-1)]⟩,iv 0]⟩
def xd(src:String)(picks:List PB)(v:Value):Bool:=PH oQ picks v (KJ Tryz.prog 3 100000 (.fn 70 [.string src.toUTF8] (Bi oQ) 3))
theorem mixed:Tryz.prog.follows .mixedOrders=true:=by kernel_rfl
theorem ta{src:String}{h:Nat}{cod:List Value}{ty:TypeId}{v:Value}{F:HL}(hh:h≠0)(hq:xd src [(h,cod,ty)] v=true) :
  Sp Tryz.prog 70 #[.string src.toUTF8] (oQ.map qs) F λ v' H'=>∃ν rest,v'=oE ν v /\ H'=oQ.map qs++[uB ν rest (h,cod,ty)] :=
 xc (G:=3) (tabs:=oQ) (picks:=[(h,cod,ty)]) mixed rfl rfl rfl (by simp[oQ,hh.symm]) hq
theorem M9:xd "" [] SO=true:=by kernel_rfl
end
theorem Nc:xd Rk [(1095,Rp,231)] (G7 1095 15 (-1) 0 (-1))=true:=by kernel_rfl
theorem Nd:xd Rl [(1804,Rq,231)] (G7 1804 22 0 (-1) 12)=true:=by kernel_rfl
theorem Nf:xd Rm [(2348,Rt,231)] (G7 2348 30 (-1) (-1) 0)=true:=by kernel_rfl
theorem Ng:xd Rn [(2279,Ru,231)] (G7 2279 32 0 3 (-1))=true:=by kernel_rfl
noncomputable section
def si:Nat -> ByteArray
 | 0=>"".toUTF8
 | 1=>Rk.toUTF8
 | 2=>Rl.toUTF8
 | 3=>Rm.toUTF8
 | _=>Rn.toUTF8
def KP:Nat -> List Value
 | 0=>[]
 | 1=>Rp
 | 2=>Rq
 | 3=>Rt
 | _=>Ru
def gN:Nat -> Nat
 | 0=>0
 | 1=>15
 | 2=>22
 | 3=>30
 | _=>32
def Nh:Nat -> List Value
 | 0=>[iv (-1),iv (-1),iv (-1)]
 | 1=>[iv (-1),iv 0,iv (-1)]
 | 2=>[iv 0,iv (-1),iv 12]
 | 3=>[iv (-1),iv (-1),iv 0]
 | _=>[iv 0,iv 3,iv (-1)]
inductive PrgV(j:Nat):Value -> HL -> Prop
 | nil:j=0 -> PrgV j (.slice none 0 0) []
 | some (b cap:Nat) (rest:List Value):PrgV j (.slice (some ⟨b,0,none⟩) (gN j) cap) [(b,.lit (KP j++rest) 231 (0,0))]
theorem og(ν:Nu)(h len:Nat)(a b c:Int):oE ν (G7 h len a b c)=.tuple ⟨[.agg ⟨[.slice (some ⟨yl ν h,0,none⟩) len (SN ν h nT),iv a,iv b,iv c]⟩,iv 0]⟩:=by
 simp only[G7,oE,KL,KM,iv]
theorem KQ{j:Nat}(hj:j<5){F:HL}:Sp Tryz.prog 70 #[.string (si j)] (oQ.map qs) F λ u H'=>∃s Hp,PrgV j s Hp /\ u=.tuple ⟨[.agg ⟨s::Nh j⟩,iv 0]⟩ /\ H'=oQ.map qs++Hp:=by
 match j,hj with
 | 0,_ =>
  refine(xc (G:=3) (tabs:=oQ) (picks:=[]) mixed rfl rfl rfl (by simp[oQ]) M9).mono ?_;rintro u H' ⟨ν,rest,rfl,rfl⟩;exact⟨_,[],.nil rfl,rfl,rfl⟩
 | 1,_ =>
  refine(ta (by decide) Nc).mono ?_;rintro u H' ⟨ν,rest,rfl,rfl⟩;exact⟨_,_,.some _ _ _,og ..,rfl⟩
 | 2,_ =>
  refine(ta (by decide) Nd).mono ?_;rintro u H' ⟨ν,rest,rfl,rfl⟩;exact⟨_,_,.some _ _ _,og ..,rfl⟩
 | 3,_ =>
  refine(ta (by decide) Nf).mono ?_;rintro u H' ⟨ν,rest,rfl,rfl⟩;exact⟨_,_,.some _ _ _,og ..,rfl⟩
 | 4,_ =>
  refine(ta (by decide) Ng).mono ?_;rintro u H' ⟨ν,rest,rfl,rfl⟩;exact⟨_,_,.some _ _ _,og ..,rfl⟩
theorem Ni{j:Nat}(hj:j<5){F:HL}(hF:(0,Blk.lit yn 270 (0,0))∈F):Sp Tryz.prog 70 #[.string (si j)] [] F λ u H'=>∃s,PrgV j s H' /\ u=.tuple ⟨[.agg ⟨s::Nh j⟩,iv 0]⟩ :=
 KO hF λ F0=>(KQ hj).mono λ u H' ⟨s,Hp,h1,h2,h3⟩=>⟨Hp,⟨s,h1,h2⟩,h3⟩
end
def cJ(j k:Nat):Int:=match (Nh j)[k]? with|some (.int _ x)=>x|_=>0
def Og:List Value -> List Ins
 | .int _ a :: .int _ b::r=>⟨a,b⟩::Og r
 | _=>[]
def mf(j:Nat):List Ins:=Og (KP j)
theorem Bl:∀ {j:Nat},j<5 -> (mf j).length=gN j
 | 0,_=>by kernel_rfl
 | 1,_=>by kernel_rfl
 | 2,_=>by kernel_rfl
 | 3,_=>by kernel_rfl
 | 4,_=>by kernel_rfl
 | j+5,h=>absurd h (by omega)
theorem Dl:∀ {j:Nat},j<5 -> KP j=aw mI (mf j)
 | 0,_=>by kernel_rfl
 | 1,_=>by kernel_rfl
 | 2,_=>by kernel_rfl
 | 3,_=>by kernel_rfl
 | 4,_=>by kernel_rfl
 | j+5,h=>absurd h (by omega)
theorem yo:∀ {j:Nat},j<5 -> gN j <= 32
 | 0,_=>by decide
 | 1,_=>by decide
 | 2,_=>by decide
 | 3,_=>by decide
 | 4,_=>by decide
 | j+5,h=>absurd h (by omega)
theorem Nj:∀ {j:Nat},j<5 -> Nh j=[vI (cJ j 0),vI (cJ j 1),vI (cJ j 2)]
 | 0,_=>by kernel_rfl
 | 1,_=>by kernel_rfl
 | 2,_=>by kernel_rfl
 | 3,_=>by kernel_rfl
 | 4,_=>by kernel_rfl
 | j+5,h=>absurd h (by omega)
abbrev mF(F:HL):Prop:=(0,Blk.lit yn 270 (0,0))∈F
def SP(F:HL)(j:Nat)(A:Option Addr):Prop:=0<gN j -> ∃b rest,A=some ⟨b,0,none⟩ /\ (b,Blk.lit (KP j++rest) 231 (0,0))∈F
structure CodT(j:Nat)(A:Option Addr)(T:HL):Prop where
 src:∀F,(∀x∈T,x∈F) -> SrcIn Tryz.prog mI F A (gN j) (mf j)
 wrd:∀F,(∀x∈T,x∈F) -> SP F j A
theorem KR{j:Nat}(hj:j<5)(F:HL)(hE:mF F):Sp Tryz.prog 70 #[.string (si j)] (ap [] []) F (λ u H'=>∃x:Option Addr × Nat × HL,H'=ap [] [x.2.2] /\ (u=.tuple #[.agg #[.slice x.1 (gN j) x.2.1,vI (cJ j 0),vI (cJ j 1),vI (cJ j 2)],vI 0] /\ CodT j x.1 x.2.2)):=by
 refine(Ni hj hE).mono ?_;rintro u H' ⟨s,hp,rfl⟩;rw[Nj hj];cases hp with
 | nil h0 =>
  subst h0;exact⟨(none,0,[]),(aP _).symm,rfl,⟨λ F hF=>SrcIn.none,λ F hF h=>absurd h (by decide)⟩⟩
 | some b cap rest =>
  refine⟨(some ⟨b,0,none⟩,cap,[(b,.lit (KP j++rest) 231 (0,0))]),(aP _).symm,rfl,⟨λ F hF=>?_,λ F hF h=>⟨b,rest,rfl,hF _ (List.mem_singleton.2 rfl)⟩⟩⟩;have h:=SrcIn.lit IE (xs:=mf j) (rest:=rest) (ty:=231) (fz:=(0,0)) (F:=F) (q:=b) (by rw[<- Dl hj];exact hF _ (List.mem_singleton.2 rfl));rw[Bl hj] at h;exact h
inductive Book1(j bp:Nat):HL -> Prop
 | mk (q:Nat) (A:Option Addr) (c:Nat) (T:HL) (h:CodT j A T):Book1 j bp (ap [(bp,.lit [vS q 0 1 1] 149 (0,0)),(q,.lit [vI 0,.slice A (gN j) c,vI (cJ j 0),vI (cJ j 1),vI (cJ j 2)] 146 (0,0))] [T])
def Rx:List Value:=[.string ⟨#[]⟩,.string ⟨#[111,110,32,116,105,99,107,32,123,32,110,32,61,32,110,32,43,32,49,59,32,105,102,32,110,32,62,61,32,51,32,123,32,101,102,102,101,99,116,32,49,44,32,110,59,32,110,32,61,32,48,59,32,125,32,125]⟩,.string ⟨#[111,110,32,97,99,116,32,123,32,118,120,91,115,101,108,102,93,32,61,32,118,120,91,115,101,108,102,93,32,43,32,49,48,48,32,42,32,111,116,104,101,114,59,32,101,102,102,101,99,116,32,50,44,32,115,101,108,102,59,32,125,32,111,110,32,104,105,116,32,123,32,97,91,115,101,108,102,93,32,61,32,97,91,115,101,108,102,93,32,43,32,49,59,32,101,102,102,101,99,116,32,51,44,32,111,116,104,101,114,59,32,125]⟩,.string ⟨#[111,110,32,104,105,116,32,123,32,105,102,32,104,105,116,91,111,116,104,101,114,93,32,61,61,32,115,101,108,102,32,43,32,49,32,38,38,32,97,91,115,101,108,102,93,32,60,32,97,91,111,116,104,101,114,93,32,123,32,118,120,91,115,101,108,102,93,32,61,32,45,118,120,91,115,101,108,102,93,59,32,98,91,115,101,108,102,93,32,61,32,116,105,99,107,59,32,125,32,101,108,115,101,32,123,32,115,116,111,112,59,32,125,32,101,102,102,101,99,116,32,52,44,32,97,91,115,101,108,102,93,59,32,125]⟩,.string ⟨#[111,110,32,116,105,99,107,32,123,32,105,32,61,32,48,59,32,119,104,105,108,101,32,105,32,60,32,52,32,123,32,98,91,105,93,32,61,32,98,91,105,93,32,43,32,115,116,105,108,108,91,105,93,59,32,105,32,61,32,105,32,43,32,49,59,32,125,32,115,32,61,32,115,32,43,32,120,91,48,93,32,47,32,49,48,48,59,32,101,102,102,101,99,116,32,53,44,32,115,59,32,125,32,111,110,32,97,99,116,32,123,32,115,32,61,32,48,59,32,125]⟩]
def PI:Nat -> Nat -> Value:=λ i k=>match k with|0=>.string (si i)|_=>default
theorem Bm(F:HL):Sp Tryz.prog 71 #[] (ap [] []) F (λ u H'=>∃q:Nat,H'=ap [(q,.lit Rx 9 (0,0))] [] /\ u=vS q 0 5 5):=by
 refine aav Tryz.func71 rfl mn (A:=[]) (Ts:=[]) rfl λ w0=>?_;refine ae 11 [] λ n1=>aaq [] [0] [] (v:=vS (n1+0) 0 5 5) (H':=(ap [((n1+0),.lit Rx 9 (0,0))] [])) ?_;exact⟨_,rfl,rfl⟩
theorem uD(n:Int)(F:HL)(hn:fH n):Sp Tryz.prog 42 #[vI n] [] F (λ u H'=>u=.string (si (ai n 5).toNat) /\ H'=[]):=by
 refine aav Tryz.func42 rfl mn (A:=[]) (Ts:=[]) rfl λ w0=>?_;refine ae 7 [] λ _=>aaj (Hp:=[]) (Tp:=[]) [] [] (Bm _) ?_;rintro _ q1 rfl;refine ae 1 [] λ _=>aai (eT n 5 (by decide) _) ?_;have hA2:=aA (n:=n) hn 5 (by decide);refine aak 0 (.rows 1 5 PI 9 (0,0))<|ah 5 [.ix ((ai n 5).toNat),.row 0 ((ai n 5).toNat) 0] [(0+((ai n 5).toNat)*1)=((ai n 5).toNat)*1+0 /\ ((ai n 5).toNat)<5,ai n 5=(((ai n 5).toNat:Nat):Int) /\ (ai n 5).toNat<5] λ _=>?_;exact aaq [] [] [] ⟨rfl,rfl⟩
theorem KS(j:Nat)(F:HL)(hj:j<5)(hE:mF F):Sp Tryz.prog 41 #[.string (si j)] (ap [] []) F (λ u H'=>∃x:Nat × HL,H'=ap [] [x.2] /\ (u=.tuple #[vP x.1 0,vI 0] /\ Book1 j x.1 x.2)):=by
 refine aav Tryz.func41 rfl mn (A:=[]) (Ts:=[]) rfl λ w0=>?_;refine ae 9 [] λ _=>aaj (Hp:=[]) (Tp:=[]) [] [] (KR hj _ (aq hE)) ?_;rintro _ ⟨A1,c2,T3⟩ ⟨rfl,hC4⟩;dsimp only at hC4;refine ae 29 (ow 0 8) λ n5=>aaq [] [0,1] [0] (v:=.tuple #[vP (n5+2) 0,vI 0]) (H':=(ap [((n5+2),.lit [vS (n5+1) 0 1 1] 149 (0,0)),((n5+1),.lit [vI 0,.slice A1 (gN j) c2,vI (cJ j 0),vI (cJ j 1),vI (cJ j 2)] 146 (0,0))] [T3])) ?_;exact⟨((n5+2),ap [((n5+2),.lit [vS (n5+1) 0 1 1] 149 (0,0)),((n5+1),.lit [vI 0,.slice A1 (gN j) c2,vI (cJ j 0),vI (cJ j 1),vI (cJ j 2)] 146 (0,0))] [T3]),by simp[ap],rfl,.mk _ _ _ _ hC4⟩
open Go.Shelf
theorem KT(c0 c1 c2 c3 c4:Value)(F:HL):SpD Tryz.prog 81 #[c0,c1,c2,c3,c4] [] F (λ _ H'=>H'=[]):=by
 intro w hR;refine callsDIn_of_wpSIn (F:=Wr none) (n:=0) Tryz.func81 rfl trivial λ c₀ cs hu=>?_;have hrc:recoverD (c₀::cs)=none:=by simp[recoverD,hu]
 refine wpSIn_seq (wpSIn_region ?_);show wpOpsSIn _ _ _ _ _ [0,1] _ _ _;simp only[wpOpsSIn,List.getElem?_toArray,List.getElem?_cons_zero,List.getElem?_cons_succ];simp[wpOpsSIn,go_sem,hrc,Tryz.ntmps81,Exit.thenS];refine wpSIn_cond (t:=false) (by simp[Act.eval,Array.replicate]) ?_;refine wpSIn_of_wpIn rfl ?_;refine wpIn_skip ?_;simp[bodyPostS,results,Tryz.results81,hu];exact⟨.returning,by cases c₀;simp at hu;subst hu;rfl,hu ▸ rfl,hR,Below.refl _ _⟩
abbrev iW(S:Setup)(j:Nat × Int)(n:Nat)(xs:List Inp):Gm:=⟨S,none,gN j.1,0,cJ j.1 0,cJ j.1 1,cJ j.1 2,j.2,0,0,n,0,0,xs,mf j.1⟩
def AtOk(F:HL)(bp:Nat)(t:Int)(j:Nat × Int):Prop:=∀F',(∀x∈F,x∈F') -> Sp Tryz.prog 106 #[vP bp 0,vI t] (ap [] []) F' (λ u H'=>∃x:Option Addr × Nat × HL,H'=ap [] [x.2.2] /\ (u=.tuple #[vI j.2,.agg #[.slice x.1 (gN j.1) x.2.1,vI (cJ j.1 0),vI (cJ j.1 1),vI (cJ j.1 2)]] /\ ClS mI 231 (mf j.1) x.1 x.2.1 x.2.2))
theorem AtOk.mono{F F':HL}{bp:Nat}{t:Int}{j:Nat × Int}(h:AtOk F bp t j)(hs:∀x∈F,x∈F'):AtOk F' bp t j:=λ F2 h2=>h F2 λ x hx=>h2 x (hs x hx)
abbrev Ry(x:Eff × Bool):Array Value:=#[.agg #[vI x.1.t,vI x.1.i,vI x.1.k,vI x.1.v,.bool x.2]]
theorem ClS.code{j:Nat}(hj:j<5){A:Option Addr}{c:Nat}{Hl F:HL}(h:ClS mI 231 (mf j) A c Hl)(hF:∀x∈Hl,x∈F):CodeIn F (mf j) A (gN j):=by
 have hl:=Bl hj;have hb:=yo hj;obtain⟨A0,h⟩:=h;rcases h with ⟨h1,rfl,rfl,rfl⟩|⟨b,rfl,rfl,h3⟩
 ·rw[h1] at hl;rw[<- hl];exact .nil _
 ·exact .mk b c _ (hF _ (List.mem_singleton.2 rfl)) (by rw[<- hl];exact h3) (by omega)
theorem yp{S:Setup}{A:Option Addr}{j:Nat × Int}{c ib io n ic N:Nat}{full xs:List Inp}(hx:∀k,k<n -> full.getD (io+k) dI=xs.getD k dI):GEq ⟨S,A,gN j.1,c,cJ j.1 0,cJ j.1 1,cJ j.1 2,j.2,ib,io,n,ic,N,full,mf j.1⟩ (iW S j n xs) :=
 ⟨rfl,λ k hk=>(hx k hk).trans (by rw[Nat.zero_add])⟩
theorem qt{g g0:Gm}(e:GEq g g0)(mb:Nat)(M:MemS)(k:Nat)(T F:HL)(hM:MemH mb M (k+20) T)(hg:GmIn F g)(h0:IQ M)(ver:Int)(aed:g.version=ver):Sp Tryz.prog 107 #[.iface 113 (vP mb 0),.agg #[vI g.S.players,vS g.S.bb (g.S.bo*9) g.S.nb g.S.bc,vI g.S.box.x0,vI g.S.box.y0,vI g.S.box.x1,vI g.S.box.y1,.slice g.S.rA g.S.rn g.S.rc,.slice g.S.dA g.S.dn g.S.dc,vI g.S.fog,vI g.S.g.x,vI g.S.g.y,vI g.S.push,vI g.S.drag,vI g.S.rest,vI g.S.rounds,vI g.S.fuel],.agg #[.slice g.cA g.cn g.cc,vI g.e0,vI g.e1,vI g.e2],vI ver,vS g.ib (g.io*3) g.ni g.ic] (ap [] [T]) F (λ u H'=>∃x,H'=ap [] [x] /\ (MemH mb (jH g0 M) k x /\ u=.tuple #[.bool (kB g0 M),.agg (aaa (fL g0 M).e).toArray,.bool ((fL g0 M).em)])):=by
 have h:=FZ g mb M k T F hM hg h0 ver aed;rwa [jH,I3 e,xO e] at h
theorem Nl(S:Setup)(bp gb mb q1 q2 ib io N ni ic m k:Nat)(j:Nat × Int)(full xs:List Inp)(M:MemS)(F:HL)(hj:j.1<5)(hA:AtOk F bp (M.get 0) j)(hg:(gb,.lit (bP S bp mb) 121 (0,0))∈F)(h1:(q1,.lit [vP gb 0] 97 (0,0))∈F)(h2:(q2,.lit [vS ib (io*3) ni ic] 38 (0,0))∈F)(hS:SetIn F S)(hE:bF F)(hI:(ib,.rows 3 N (ll full) 40 (0,0))∈F)(hir:io+ni <= N /\ ni <= 1000000)(hx:∀k,k<ni -> full.getD (io+k) dI=xs.getD k dI)(T:HL)(hM:MemH mb M (k+20*m+20) T)(h0:0 <= M.get 0)(Wm:eL (iW S j ni xs) (m+1) M)(lp:Nat)(X:HL)(J:Nat -> HL -> Prop)(Jx:HL -> Prop)(T0:HL)(hY:∀i x H Y,(j6 (iW S j ni xs) (m+1) M)[i]?=some x -> J i H -> YL Tryz.prog lp (Ry x) H (Y++(X++F)) (λ b H'=>(b=true /\ J (i+1) H') \/ (b=false /\ Jx H')))(XI:J 0 T0):Sp Tryz.prog 105 #[.func (.yield lp) #[] #[],vP q1 0,vP q2 0] (ap [] [T0,T]) (X++F) (λ _ H'=>∃x:HL × HL,H'=ap [] [x.1,x.2] /\ ((J (j6 (iW S j ni xs) (m+1) M).length x.1 /\ MemH mb (gU (iW S j ni xs) (m+1) M) k x.2) \/ Jx x.1)):=by
 have VP:=List.mem_append_right X hg;have VH:=List.mem_append_right X h1;have R_:=List.mem_append_right X h2;have hS_:SetIn (X++F) S:=hS.up;have hE_:bF (X++F):=List.mem_append_right X hE;have C_:=List.mem_append_right X hI;have hA_:AtOk (X++F) bp (M.get 0) j:=hA.mono λ x hx=>List.mem_append_right X hx;refine aav Tryz.func105 rfl (mc VP (mc VH (mc R_ mn))) (A:=[]) (Ts:=[T0,T]) rfl λ w0=>?_;refine ae 1 [] λ _=>aal [12] []<|ag [] [0,4,1,2,3] [.ro 1,.ro 1,.ro 0]<|aac [] 5 (λ X_=>(t6 S bp gb mb M (k+20*m+20) T _ (Cg VP) hM (aE 1)))<|iu 6 10 ?_ ?_
 ·refine aaf [] (Hp:=[]) (Tp:=[]) [] [] (hA_ _ (λ x hx=>aq hx)) ?_;rintro _ ⟨A1,c2,T3⟩ ⟨rfl,hc4⟩;dsimp only at hc4;refine ag [] [7,8,9] []<|aae 10 (aag [] [] λ n5=>?_);refine ag [] [11] []<|aae 12 (aag [] (aab 4) λ _=>?_);refine aad<|ae 2 [] λ _=>aao (σ:=Nat × Nat × MemS × HL × HL) (λ ⟨r,i_,M_,T_,J_⟩=>⟨[(0,.func (.yield lp) #[] #[]),(1,vP q1 0),(2,vP q2 0),(4,vI j.2),(5,vP (n5+0) 0)],[((n5+0),.lit [.slice A1 (gN j.1) c2,vI (cJ j.1 0),vI (cJ j.1 1),vI (cJ j.1 2)] 142 (0,0))],[T_,J_,T3],i_+(r+1)=m+1 /\ eL (iW S j ni xs) (r+1) M_ /\ gU (iW S j ni xs) (r+1) M_=gU (iW S j ni xs) (m+1) M /\ MemH mb M_ (k+20*r+20) T_ /\ (j6 (iW S j ni xs) (m+1) M).drop i_=j6 (iW S j ni xs) (r+1) M_ /\ J i_ J_,r⟩) (m,0,M,T,T0) [0] [2,1,0] (⟨by omega,Wm,rfl,hM,rfl,XI⟩) ?_;rintro⟨r,i_,M_,T_,J_⟩ ⟨hd_,OF,UA,Xk,WG,UW⟩ mt7;refine ae 2 [] λ _=>aal [12,19] []<|ag [] [0,5,9,10,11,1,6,2,7,3,8,4] [.ro 1,.ro 1,.own 0,.own 0,.own 0,.own 0,.ro 2,.ro 0,.ro 0,.ro 0,.ro 0,.ro 0,.ro 0,.ro 0,.ro 0,.ro 0,.ro 0,.ro 0,.ro 0,.ro 0,.ro 0,.ro 0,.ro 0,.ro 0]<|iu 12 17 ?_ ?_
  ·refine aaf [] [] [0] (qt (g:=(⟨S,A1,gN j.1,c2,cJ j.1 0,cJ j.1 1,cJ j.1 2,j.2,ib,io,ni,ic,N,full,mf j.1⟩:Gm)) (yp hx) mb M_ (k+20*r) T_ _ Xk ⟨hS_.up,aq C_,hir,aq hE_,hc4.code hj (ak 1)⟩ OF.1 j.2 rfl) ?_;rintro _ T8 ⟨YW,rfl⟩;refine ag [] [13,14,15,16] []<|aae 17 (aag [] [] λ VW=>?_);refine ag [] [18] []<|aae 19 (aag [] (aab 4) λ _=>?_);refine ag [] [20] []<|aad<|ae 7 (aab 4) λ _=>aat 1 (hY i_ ((fL (iW S j ni xs) M_).e,(fL (iW S j ni xs) M_).em) _ _ (jc WG).1 UW) ?_;rintro b_ Tt (⟨rfl,acG⟩|⟨rfl,acG⟩)
   ·refine ae 6 [] λ _=>jB (kB (iW S j ni xs) M_) 44 (λ Vc=>?_) λ Vc=>?_
    ·refine ae 1 [] λ _=>aaq [] [] [0,1] (v:=.tuple #[]) (H':=(ap [] [Tt,T8])) ?_;have er:r=0:=by
      rcases OF.2 with ⟨e,_⟩|⟨e,_⟩
      ·exact e
      ·have hh:kB (iW S j ni xs) M_=true:=by assumption
       rw[e] at hh;cases hh
     subst er;have ed:i_+1=(j6 (iW S j ni xs) (m+1) M).length:=by rw[j7];omega
     refine⟨(Tt,T8),rfl,.inl ⟨?_,?_⟩⟩
     ·rw[<- ed];exact acG
     ·rw[<- UA];exact YW.weak (by omega)
    ·refine ae 3 [] λ _=>?_;have WD:=OF.2;rcases WD with ⟨_,e_⟩|⟨_,WD⟩
     ·exact absurd e_ (by assumption)
     rcases r with _|r
     ·exact WD.elim
     refine mt7 (r,i_+1,(jH (iW S j ni xs) M_),T8,Tt) [1] [1,0,2] ?_
     try dsimp only
     exact⟨⟨by omega,WD,UA,YW.weak (by omega),(jc WG).2,acG⟩,by omega⟩
   ·refine ae 7 [] λ _=>aaq [] [] [0,1] (v:=.tuple #[]) (H':=(ap [] [Tt,T8])) ?_;exact⟨(Tt,T8),rfl,.inr acG⟩
  ·refine aag [] [] λ n14=>aae 12 (aaf [] [] [0] (qt (g:=(⟨S,A1,gN j.1,c2,cJ j.1 0,cJ j.1 1,cJ j.1 2,j.2,ib,io,ni,ic,N,full,mf j.1⟩:Gm)) (yp hx) mb M_ (k+20*r) T_ _ Xk ⟨hS_.up,aq C_,hir,aq hE_,hc4.code hj (ak 1)⟩ OF.1 j.2 rfl) ?_);rintro _ Vh ⟨Wc,rfl⟩;refine ag [] [13,14,15,16,18] []<|aae 19 (aag [] (aab 4) λ _=>?_);refine ag [] [20] []<|aad<|ae 7 (aab 4) λ _=>aat 1 (hY i_ ((fL (iW S j ni xs) M_).e,(fL (iW S j ni xs) M_).em) _ _ (jc WG).1 UW) ?_;rintro b_ Us (⟨rfl,acF⟩|⟨rfl,acF⟩)
   ·refine ae 6 [] λ _=>jB (kB (iW S j ni xs) M_) 44 (λ h19=>?_) λ h19=>?_
    ·refine ae 1 [] λ _=>aaq [] [] [0,1] (v:=.tuple #[]) (H':=(ap [] [Us,Vh])) ?_;have er:r=0:=by
      rcases OF.2 with ⟨e,_⟩|⟨e,_⟩
      ·exact e
      ·have hh:kB (iW S j ni xs) M_=true:=by assumption
       rw[e] at hh;cases hh
     subst er;have ed:i_+1=(j6 (iW S j ni xs) (m+1) M).length:=by rw[j7];omega
     refine⟨(Us,Vh),rfl,.inl ⟨?_,?_⟩⟩
     ·rw[<- ed];exact acF
     ·rw[<- UA];exact Wc.weak (by omega)
    ·refine ae 3 [] λ _=>?_;have WD:=OF.2;rcases WD with ⟨_,e_⟩|⟨_,WD⟩
     ·exact absurd e_ (by assumption)
     rcases r with _|r
     ·exact WD.elim
     refine mt7 (r,i_+1,(jH (iW S j ni xs) M_),Vh,Us) [1] [1,0,2] ?_
     try dsimp only
     exact⟨⟨by omega,WD,UA,Wc.weak (by omega),(jc WG).2,acF⟩,by omega⟩
   ·refine ae 7 [] λ _=>aaq [] [] [0,1] (v:=.tuple #[]) (H':=(ap [] [Us,Vh])) ?_;exact⟨(Us,Vh),rfl,.inr acF⟩
 ·refine aag [] [] λ Yu=>aae 6 (aaf [] (Hp:=[]) (Tp:=[]) [] [] (hA_ _ (λ x hx=>aq hx)) ?_);rintro _ ⟨A21,c22,Zg⟩ ⟨rfl,ae2⟩;dsimp only at ae2;refine ag [] [7,8,9,11] []<|aae 12 (aag [] (aab 4) λ _=>?_);refine aad<|ae 2 [] λ _=>aao (σ:=Nat × Nat × MemS × HL × HL) (λ ⟨r,i_,M_,T_,J_⟩=>⟨[(0,.func (.yield lp) #[] #[]),(1,vP q1 0),(2,vP q2 0),(4,vI j.2),(5,vP (Yu+0) 0)],[((Yu+0),.lit [.slice A21 (gN j.1) c22,vI (cJ j.1 0),vI (cJ j.1 1),vI (cJ j.1 2)] 142 (0,0))],[T_,J_,Zg],i_+(r+1)=m+1 /\ eL (iW S j ni xs) (r+1) M_ /\ gU (iW S j ni xs) (r+1) M_=gU (iW S j ni xs) (m+1) M /\ MemH mb M_ (k+20*r+20) T_ /\ (j6 (iW S j ni xs) (m+1) M).drop i_=j6 (iW S j ni xs) (r+1) M_ /\ J i_ J_,r⟩) (m,0,M,T,T0) [0] [2,1,0] (⟨by omega,Wm,rfl,hM,rfl,XI⟩) ?_;rintro⟨r,i_,M_,T_,J_⟩ ⟨hd_,OF,UA,Xk,WG,UW⟩ agF;refine ae 2 [] λ _=>aal [12,19] []<|ag [] [0,5,9,10,11,1,6,2,7,3,8,4] [.ro 1,.ro 1,.own 0,.own 0,.own 0,.own 0,.ro 2,.ro 0,.ro 0,.ro 0,.ro 0,.ro 0,.ro 0,.ro 0,.ro 0,.ro 0,.ro 0,.ro 0,.ro 0,.ro 0,.ro 0,.ro 0,.ro 0,.ro 0]<|iu 12 17 ?_ ?_
  ·refine aaf [] [] [0] (qt (g:=(⟨S,A21,gN j.1,c22,cJ j.1 0,cJ j.1 1,cJ j.1 2,j.2,ib,io,ni,ic,N,full,mf j.1⟩:Gm)) (yp hx) mb M_ (k+20*r) T_ _ Xk ⟨hS_.up,aq C_,hir,aq hE_,ae2.code hj (ak 1)⟩ OF.1 j.2 rfl) ?_;rintro _ Xy ⟨Wb,rfl⟩;refine ag [] [13,14,15,16] []<|aae 17 (aag [] [] λ n29=>?_);refine ag [] [18] []<|aae 19 (aag [] (aab 4) λ _=>?_);refine ag [] [20] []<|aad<|ae 7 (aab 4) λ _=>aat 1 (hY i_ ((fL (iW S j ni xs) M_).e,(fL (iW S j ni xs) M_).em) _ _ (jc WG).1 UW) ?_;rintro b_ T30 (⟨rfl,acE⟩|⟨rfl,acE⟩)
   ·refine ae 6 [] λ _=>jB (kB (iW S j ni xs) M_) 44 (λ XJ=>?_) λ XJ=>?_
    ·refine ae 1 [] λ _=>aaq [] [] [0,1] (v:=.tuple #[]) (H':=(ap [] [T30,Xy])) ?_;have er:r=0:=by
      rcases OF.2 with ⟨e,_⟩|⟨e,_⟩
      ·exact e
      ·have hh:kB (iW S j ni xs) M_=true:=by assumption
       rw[e] at hh;cases hh
     subst er;have ed:i_+1=(j6 (iW S j ni xs) (m+1) M).length:=by rw[j7];omega
     refine⟨(T30,Xy),rfl,.inl ⟨?_,?_⟩⟩
     ·rw[<- ed];exact acE
     ·rw[<- UA];exact Wb.weak (by omega)
    ·refine ae 3 [] λ _=>?_;have WD:=OF.2;rcases WD with ⟨_,e_⟩|⟨_,WD⟩
     ·exact absurd e_ (by assumption)
     rcases r with _|r
     ·exact WD.elim
     refine agF (r,i_+1,(jH (iW S j ni xs) M_),Xy,T30) [1] [1,0,2] ?_
     try dsimp only
     exact⟨⟨by omega,WD,UA,Wb.weak (by omega),(jc WG).2,acE⟩,by omega⟩
   ·refine ae 7 [] λ _=>aaq [] [] [0,1] (v:=.tuple #[]) (H':=(ap [] [T30,Xy])) ?_;exact⟨(T30,Xy),rfl,.inr acE⟩
  ·refine aag [] [] λ n33=>aae 12 (aaf [] [] [0] (qt (g:=(⟨S,A21,gN j.1,c22,cJ j.1 0,cJ j.1 1,cJ j.1 2,j.2,ib,io,ni,ic,N,full,mf j.1⟩:Gm)) (yp hx) mb M_ (k+20*r) T_ _ Xk ⟨hS_.up,aq C_,hir,aq hE_,ae2.code hj (ak 1)⟩ OF.1 j.2 rfl) ?_);rintro _ T34 ⟨acB,rfl⟩;refine ag [] [13,14,15,16,18] []<|aae 19 (aag [] (aab 4) λ _=>?_);refine ag [] [20] []<|aad<|ae 7 (aab 4) λ _=>aat 1 (hY i_ ((fL (iW S j ni xs) M_).e,(fL (iW S j ni xs) M_).em) _ _ (jc WG).1 UW) ?_;rintro b_ T36 (⟨rfl,acD⟩|⟨rfl,acD⟩)
   ·refine ae 6 [] λ _=>jB (kB (iW S j ni xs) M_) 44 (λ h38=>?_) λ h38=>?_
    ·refine ae 1 [] λ _=>aaq [] [] [0,1] (v:=.tuple #[]) (H':=(ap [] [T36,T34])) ?_;have er:r=0:=by
      rcases OF.2 with ⟨e,_⟩|⟨e,_⟩
      ·exact e
      ·have hh:kB (iW S j ni xs) M_=true:=by assumption
       rw[e] at hh;cases hh
     subst er;have ed:i_+1=(j6 (iW S j ni xs) (m+1) M).length:=by rw[j7];omega
     refine⟨(T36,T34),rfl,.inl ⟨?_,?_⟩⟩
     ·rw[<- ed];exact acD
     ·rw[<- UA];exact acB.weak (by omega)
    ·refine ae 3 [] λ _=>?_;have WD:=OF.2;rcases WD with ⟨_,e_⟩|⟨_,WD⟩
     ·exact absurd e_ (by assumption)
     rcases r with _|r
     ·exact WD.elim
     refine agF (r,i_+1,(jH (iW S j ni xs) M_),T34,T36) [1] [1,0,2] ?_
     try dsimp only
     exact⟨⟨by omega,WD,UA,acB.weak (by omega),(jc WG).2,acD⟩,by omega⟩
   ·refine ae 7 [] λ _=>aaq [] [] [0,1] (v:=.tuple #[]) (H':=(ap [] [T36,T34])) ?_;exact⟨(T36,T34),rfl,.inr acD⟩
theorem PJ(S:Setup)(bp gb mb q1 q2 ib io N ni ic m k:Nat)(j:Nat × Int)(full xs:List Inp)(M:MemS)(F:HL)(hj:j.1<5)(hA:AtOk F bp (M.get 0) j)(hg:(gb,.lit (bP S bp mb) 121 (0,0))∈F)(h1:(q1,.lit [vP gb 0] 97 (0,0))∈F)(h2:(q2,.lit [vS ib (io*3) ni ic] 38 (0,0))∈F)(hS:SetIn F S)(hE:bF F)(hI:(ib,.rows 3 N (ll full) 40 (0,0))∈F)(hir:io+ni <= N /\ ni <= 1000000)(hx:∀k,k<ni -> full.getD (io+k) dI=xs.getD k dI)(T:HL)(hM:MemH mb M (k+20*m+20) T)(h0:0 <= M.get 0)(Wm:eL (iW S j ni xs) (m+1) M):RS Tryz.prog 105 #[vP q1 0,vP q2 0] T F Ry (j6 (iW S j ni xs) (m+1) M) (λ T1=>MemH mb (gU (iW S j ni xs) (m+1) M) k T1) (λ _=>True):=by
 intro X l J Jx H0 hY h0';have e:∀A B:HL,ap [] [A,B]=A++B:=λ A B=>by simp[ap]
 have key:=Nl S bp gb mb q1 q2 ib io N ni ic m k j full xs M F hj hA hg h1 h2 hS hE hI hir hx T hM h0 Wm l X J Jx H0 hY h0';rw[e] at key;refine key.mono λ u H' h=>?_;obtain⟨x,rfl,h⟩:=h;refine⟨x.1,x.2,e _ _,?_⟩;rcases h with ⟨a,b⟩|a
 ·exact .inl ⟨a,b⟩
 ·exact .inr ⟨a,trivial⟩
theorem uE(e:Int)(S:Setup)(bp gb mb:Nat)(M:MemS)(k:Nat)(A:Option Addr)(n cap:Nat)(xs:List Inp)(T F:HL)(hg:(gb,.lit (bP S bp mb) 121 (0,0))∈F)(hM:MemH mb M k T)(hT:∀x∈T,x∈F)(hl:RowL cS 40 F A n xs)(hn:n <= 1000000)(he:cI S.players n xs (M.get 0)=e):Sp Tryz.prog 80 #[vP gb 0,.slice A n cap] [] F (λ u H'=>u=vI e /\ H'=[]):=he ▸ CX S bp gb mb M k A n cap xs T F hg hM hT hl hn
theorem KU(c0 c1 c2 c3 c4:Value)(F:HL):SpD Tryz.prog 81 #[c0,c1,c2,c3,c4] (ap [] []) F (λ _ H'=>∃_:Unit,H'=ap [] [] /\ True):=by
 exact(KT c0 c1 c2 c3 c4 F).mono λ u H' h=>⟨(),h,trivial⟩
theorem uF(S:Setup)(rs:List Bx)(ds:List Dr)(bp gb mb ib io N ni ic m k:Nat)(j:Nat × Int)(full xs:List Inp)(M:MemS)(T U F:HL)(hj:j.1<5)(hA:AtOk F bp (M.get 0) j)(hU:se S rs ds U)(hE:bF F)(hI:(ib,.rows 3 N (ll full) 40 (0,0))∈F)(hir:io+ni <= N)(U1:ni <= 1000000)(hmb:m <= 1000000)(hlen:xs.length=ni)(hx:∀k,k<ni -> full.getD (io+k) dI=xs.getD k dI)(hM:MemH mb M (k+20*m+20) T)(h0:0 <= M.get 0)(Wm:eL (iW S j ni xs) (m+1) M)(hw:cI S.players ni xs (M.get 0)=0):Sp Tryz.prog 57 #[vP gb 0,vS ib (io*3) ni ic] (ap [(gb,.lit (bP S bp mb) 121 (0,0))] [T,U]) F (λ u H'=>∃x:HL × Option Addr × Nat × HL,H'=ap [(gb,.lit (bP S bp mb) 121 (0,0))] [x.1,U,x.2.2.2] /\ (MemH mb (gU (iW S j ni xs) (m+1) M) k x.1 /\ SlIs dk 111 (effsV (iW S j ni xs) (m+1) M) x.2.1 x.2.2.1 x.2.2.2 /\ u=.tuple #[.slice x.2.1 (effsV (iW S j ni xs) (m+1) M).length x.2.2.1,vI ((m+1:Nat):Int),vI 0])):=by
 have hl:RowL cS 40 F (some ⟨ib,io*3,none⟩) ni xs:=.rows ib io N full (0,0) ni xs hI hir hlen hx;have hM2:=hM;refine Sp.runM Tryz.func57 rfl mn (A:=[(gb,.lit (bP S bp mb) 121 (0,0))]) (Ts:=[T,U]) rfl λ w0=>?_;refine ae 13 [.own 3] λ n1=>aai (uE 0 S bp gb mb M (k+20*m+20) (some ⟨ib,io*3,none⟩) ni ic xs T _ (az 4) hM (ak 0) hl.up U1 hw)<|ae 18 [.own 3,.own 4] λ _=>aai (Am hM (ak 0))<|ae 7 [.own 0] λ n2=>Qr (g:=81) (args:=#[]) (cap:=#[vP (n1+0) 0,vP (n2+0) 0,vP (n1+1) 0,vP (n1+2) 0,vP (n1+3) 0])<|ae 7 [.own 4] λ _=>aaj (Hp:=[]) (Tp:=[]) [] [] (GL gb ib io ni ic _) ?_;rintro _ n3 rfl;refine ae 3 [] λ _=>aap<|tw [1,0,2]<|FC (σ:=Nat × List Eff × Option Addr × Nat × HL) (τ:=(Nat × List Eff × Option Addr × Nat × HL) × Nat × (Eff × Bool)) (encs:=λ (x_:Eff × Bool)=>#[.agg #[vI x_.1.t,vI x_.1.i,vI x_.1.k,vI x_.1.v,.bool x_.2]]) (xs:=(j6 (iW S j ni xs) (m+1) M)) (enters_of Tryz.func105 (by kernel_rfl) rfl) (λ ⟨c_,VI,B_,b_,E_⟩=>([((n1+1),.lit [.slice B_ VI.length b_] 58 (0,0)),((n1+2),.lit [vI (c_:Int)] 3 (0,0))],[E_])) (λ i_ ⟨c_,VI,B_,b_,E_⟩=>c_=i_ /\ VI=oA ((j6 (iW S j ni xs) (m+1) M).take i_) /\ SlIs dk 111 VI B_ b_ E_) (λ c_ ⟨c_,VI,B_,b_,E_⟩=>False) (λ ⟨⟨c_,VI,B_,b_,E_⟩,nn_,y_⟩=>⟨[(4,vP (n1+1) 0),(5,vP (n1+2) 0),(6,vP (n1+3) 0),(9,vP (nn_+0) 0)],[((nn_+0),.lit [vI y_.1.t,vI y_.1.i,vI y_.1.k,vI y_.1.v,.bool y_.2] 159 (0,0)),((n1+1),.lit [.slice B_ VI.length b_] 58 (0,0)),((n1+2),.lit [vI (c_:Int)] 3 (0,0))],[E_],True,0⟩) (λ i_ x_ ⟨⟨c_,VI,B_,b_,E_⟩,nn_,y_⟩=>(c_=i_ /\ VI=oA ((j6 (iW S j ni xs) (m+1) M).take i_) /\ SlIs dk 111 VI B_ b_ E_) /\ y_=x_) (0,[],none,0,[]) (⟨rfl,rfl,aau _ _⟩) [5,4] [1] T (PJ S bp gb mb (n3+0) (n3+1) ib io N ni ic m k j full xs M _ hj (hA.mono λ x hx=>aq hx) (az 5) (az 1) (az 0) (hU _ (ak 0)).1 (aq hE) (aq hI) ⟨hir,U1⟩ hx T hM2 h0 Wm) ?_ ?_ ?_ ?_
 ·rintro l_ i_ x_ ⟨c_,VI,B_,b_,E_⟩ Y4 w5 hx6 ⟨Uv,V3,IT⟩ mt7;refine ae 4 (ow 0 5) λ n8=>?_;refine mt7 ((c_,VI,B_,b_,E_),n8,x_) [0,1,2] [0] ?_
  try dsimp only
  exact⟨⟨Uv,V3,IT⟩,rfl⟩
 ·rintro l_ i_ x_ ⟨⟨c_,VI,B_,b_,E_⟩,nn_,y_⟩ Y9 w10 Wu ⟨⟨Uv,V3,IT⟩,ey_⟩;subst ey_;have asw:i_<m+1:=by have:=(List.getElem?_eq_some_iff.1 Wu).1;rwa [j7] at this
  have ahQ:VI.length <= i_:=by rw[V3];have:=zW ((j6 (iW S j ni xs) (m+1) M).take i_);rw[List.length_take] at this;omega
  refine ah 14 [.own 2,.nw,.own 2,.own 0] [aI ((c_:Int)+1)] λ _=>jB (y_.2) 29 (λ Uq=>?_) λ Uq=>?_
  ·refine ae 6 [.own 1,.own 0,.own 0,.own 0,.own 0] λ n13=>fG j5 VI [y_.1] 0 0 rfl IT (by simp;omega) ?_;rintro A14 c15 T16 ⟨ak8,aq9⟩;refine ae 3 [.own 2] λ _=>aah 3 (congrArg (λ v_=>(.lit [vI v_] 3 (0,0):Blk)) (show ((c_:Int)+1)=((c_+1:Nat):Int) by omega))<|aah 2 (congrArg (λ v_=>(.lit [.slice A14 v_ c15] 58 (0,0):Blk)) (show VI.length+1=(VI++[y_.1]).length by simp))<|RN.rn (c_+1,VI++[y_.1],A14,c15,T16) [2,3] [0] ?_
   try dsimp only
   exact⟨by omega,by rw[Jl Wu Uq,<- V3],ak8⟩
  ·refine ae 3 [] λ _=>aah 2 (congrArg (λ v_=>(.lit [vI v_] 3 (0,0):Blk)) (show ((c_:Int)+1)=((c_+1:Nat):Int) by omega))<|RN.rn (c_+1,VI,B_,b_,E_) [1,2] [0] ?_
   try dsimp only
   exact⟨by omega,by rw[Mu Wu Uq,<- V3],IT⟩
 ·rintro d19 ⟨c_,VI,B_,b_,E_⟩ XL ⟨Uv,V3,IT⟩ amv;refine ae 3 [] λ _=>aal [0,1,2,3,4] []<|mN (σ:=Unit) (λ _=>⟨[(4,vP (n1+1) 0),(5,vP (n1+2) 0),(6,vP (n1+3) 0)],[(d19,.obj (.deferred (some []))),((n1+1),.lit [.slice B_ VI.length b_] 58 (0,0)),((n1+2),.lit [vI (c_:Int)] 3 (0,0)),((n3+1),.lit [vS ib (io*3) ni ic] 38 (0,0)),((n3+0),.lit [vP gb 0] 97 (0,0)),((n2+0),.lit [vI (bz (M.base+(M.lg.length:Int)))] 3 (0,0)),((n1+3),.lit [vI 0] 43 (0,0)),((n1+0),.lit [vP gb 0] 97 (0,0)),(gb,.lit (bP S bp mb) 121 (0,0))],[E_,XL,U],True,0⟩) ?_ ?_
  ·rintro⟨⟩;refine ae 1 [] λ _=>Ic ?_;refine LV.mark 0 ?_;refine Qt (enters_of Tryz.func81 (by kernel_rfl) rfl) [] [] (KU _ _ _ _ _ _) ?_;rintro _ _ _;refine LV.ret [.own 0,.own 1,.own 5] [7] [1,2,0] (v:=.tuple #[.slice B_ VI.length b_,vI (c_:Int),vI 0]) (H':=(ap [(gb,.lit (bP S bp mb) 121 (0,0))] [XL,U,E_])) ?_;have e1:VI=effsV (iW S j ni xs) (m+1) M:=by rw[V3,List.take_length,zV]
   have e2:c_=m+1:=by rw[Uv,j7]
   subst e1;subst e2;exact⟨(XL,B_,b_,E_),rfl,amv,IT,rfl⟩
  ·intro Zs;refine iu 0 1 ?_ ?_
   ·refine aag [] [.own 1] λ _=>iu 1 2 ?_ ?_
    ·refine aag [] [.own 2] λ _=>aae 2 (aag [] [.own 1] λ _=>?_);refine aae 3 (aag [] [.own 2] λ _=>?_);refine aae 4 (aag [] [.own 6] λ _=>?_);exact Zs () [0,1,2,3,4,5,6,7,8] [0,1,2]
    ·refine aag [] [.own 1] λ _=>aae 1 (aag [] [.own 2] λ _=>?_);refine aae 3 (aag [] [.own 2] λ _=>?_);refine aae 4 (aag [] [.own 6] λ _=>?_);exact Zs () [0,1,2,3,4,5,6,7,8] [0,1,2]
   ·refine aag [] [.own 2] λ _=>aae 0 (aag [] [.own 1] λ _=>?_);refine aae 2 (aag [] [.own 1] λ _=>?_);refine aae 3 (aag [] [.own 2] λ _=>?_);refine aae 4 (aag [] [.own 6] λ _=>?_);exact Zs () [0,1,2,3,4,5,6,7,8] [0,1,2]
 ·exact λ _ _ _ _ h _=>h.elim
structure Rw where (A:Option Addr) (n c:Nat)
def jO:Enc Rw:=⟨1,λ p k=>match k with|0=>.slice p.A p.n p.c|_=>default,⟨none,0,0⟩⟩
noncomputable def Rz:TypeInfo:=match Tryz.prog.info? 38 with | some i=>i | none=>⟨.bool,"",0,0,false,0,0,none,false,#[]⟩
noncomputable def RA:Value:=match Rz.zero with|some z=>z|none=>.bool false
theorem EV:EncOk jO Tryz.prog 38 Rz RA where
 info:=by kernel_rfl
 zero:=by kernel_rfl
 size:=by kernel_rfl
 zsize:=by kernel_rfl
 zcell:=λ k hk=>by
  have h:∀k<1,RA.cells[k]?=some (jO.cell jO.dflt k):=by intro k hk;(iterate 1 (rcases k with _|k;· kernel_rfl));omega
  exact h k hk
 one:=λ x k=>by unfold jO;dsimp only;split <;> rfl
 bytes:=Nat.le_of_ble_eq_true (by kernel_rfl)
inductive RwIn(F:HL)(xs:List Inp):Rw -> Prop
 | mk (b o N:Nat) (full:List Inp) (c:Nat) (hI:(b,.rows 3 N (ll full) 40 (0,0))∈F) (hir:o+xs.length <= N) (hx:∀k,k<xs.length -> full.getD (o+k) dI=xs.getD k dI) (hcap:xs.length <= c):RwIn F xs ⟨some ⟨b,o*3,none⟩,xs.length,c⟩
structure RwsIn(F:HL)(rs:List Rw)(xss:List (List Inp)):Prop where
 len:rs.length=xss.length
 row:∀k,k<rs.length -> RwIn F (xss.getD k []) (rs.getD k jO.dflt)
def RwsT(rs:List Rw)(xss:List (List Inp))(T:HL):Prop:=∀F,(∀x∈T,x∈F) -> RwsIn F rs xss
theorem RwsIn.get{F:HL}{rs:List Rw}{xss:List (List Inp)}(h:RwsIn F rs xss){k:Nat}(hk:k<rs.length):∃b o N full c,rs.getD k jO.dflt=⟨some ⟨b,o*3,none⟩,(xss.getD k []).length,c⟩ /\ (b,.rows 3 N (ll full) 40 (0,0))∈F /\ o+(xss.getD k []).length <= N /\ (∀i,i<(xss.getD k []).length -> full.getD (o+i) dI=(xss.getD k []).getD i dI) /\ (xss.getD k []).length <= c:=by
 have h1:=h.row k hk;generalize rs.getD k jO.dflt=p at h1 ⊢;cases h1 with
 | mk b o N full c hI hir hx hc=>exact⟨b,o,N,full,c,rfl,hI,hir,hx,hc⟩
theorem SlIs.rw{xs:List Inp}{A:Option Addr}{c:Nat}{T F:HL}(h:SlIs cS 40 xs A c T)(hF:∀x∈T,x∈F)(h1:1 <= xs.length){n:Nat}(hn:n=xs.length):RwIn F xs ⟨A,n,c⟩:=by
 subst hn;rcases h with ⟨_,_,rfl,_⟩|⟨b,o,full,rfl,rfl,h2,h3,h4⟩
 ·simp at h1
 ·refine .mk b o (o+c) full c (hF _ (List.mem_singleton.2 rfl)) (by omega) (λ k hk=>?_) h3;have h5:((full.drop o).take xs.length)[k]?=xs[k]?:=by rw[h4]
  rw[List.getElem?_take,if_pos hk,List.getElem?_drop] at h5;rw[List.getD_eq_getElem?_getD,List.getD_eq_getElem?_getD,h5]
theorem RwsT.nil:RwsT [] [] []:=λ F _=>⟨rfl,λ k hk=>absurd hk (Nat.not_lt_zero _)⟩
theorem iJ{α:Type}(l:List α)(x d:α)(k:Nat):(l++[x]).getD k d=if k<l.length then l.getD k d else if k=l.length then x else d:=by
 rw[List.getD_eq_getElem?_getD,List.getElem?_append];split
 ·rw[List.getD_eq_getElem?_getD]
 ·split
  ·next h=>subst h;simp
  ·rw[List.getElem?_eq_none (by simp;omega)];rfl
theorem RwsT.snoc{rs:List Rw}{xss:List (List Inp)}{T T1:HL}{xs:List Inp}{A:Option Addr}{c n:Nat}(h:RwsT rs xss T)(hs:SlIs cS 40 xs A c T1)(h1:1 <= xs.length)(hn:n=xs.length):RwsT (rs++[⟨A,n,c⟩]) (xss++[xs]) (T++T1):=λ F hF=>by
 have h2:=h F λ x hx=>hF x (List.mem_append_left _ hx);refine⟨by simp[h2.len],λ k hk=>?_⟩;rw[iJ,iJ,<- h2.len]
 by_cases VN:k<rs.length
 ·rw[if_pos VN,if_pos VN];exact h2.row k VN
 ·have:k=rs.length:=by simp at hk;omega
  rw[if_neg VN,if_neg VN,if_pos this,if_pos this];exact hs.rw (λ x hx=>hF x (List.mem_append_right _ hx)) h1 hn
def ii(G:Nat -> Gm)(M:MemS):Nat -> MemS
 | 0=>M
 | k+1=>fw (G k) (ii G M k)
abbrev gt(S:Setup)(j:Nat × Int)(xs:List Inp):Gm:=iW S j xs.length xs
abbrev rG(S:Setup)(J:Nat -> Nat × Int)(xss:List (List Inp)):Nat -> Gm:=λ k=>gt S (J k) (xss.getD k [])
structure TkOk(S:Setup)(j:Nat × Int)(xs:List Inp)(M:MemS):Prop where
 ex:∃m,m <= 999 /\ eL (gt S j xs) (m+1) M
 now:0 <= M.get 0
 ok:cI S.players xs.length xs (M.get 0)=0
theorem EW{g:Gm}{M:MemS}{m:Nat}(hm:m <= 999)(h:eL g (m+1) M):gU g (m+1) M=fw g M /\ effsV g (m+1) M=lq g M:=by
 rw[fw,lq,Jj m 1000 M h (by omega)];exact⟨rfl,rfl⟩
theorem k9{M N:MemS}(h:M.cs=N.cs)(i:Int):M.get i=N.get i:=by unfold MemS.get;rw[h]
theorem pv(g:Gm)(l:List (Int × Int))(b:Int):∀ (n:Nat) (M:MemS),eL g n (M.sh l b)↔eL g n M
 | 0,_=>Iff.rfl
 | n+1,M=>by rw[eL,eL,Ji,jH,jH,xR,bU,pv g l b n];exact Iff.rfl
theorem Dm{g:Gm}{M N:MemS}(h:M.cs=N.cs)(n:Nat)(hg:eL g n M):eL g n N:=by
 rw[<- mW M,pv] at hg;rw[<- mW N,pv,<- h];exact hg
theorem TkOk.cs{S:Setup}{j:Nat × Int}{xs:List Inp}{M N:MemS}(e:M.cs=N.cs)(h:TkOk S j xs M):TkOk S j xs N:=by
 obtain⟨m,h1,h2⟩:=h.ex;exact⟨⟨m,h1,Dm e _ h2⟩,by rw[<- k9 e];exact h.now,by rw[<- k9 e];exact h.ok⟩
theorem eh(g:Gm)(M:MemS):(fw g M).base=M.base:=by
 have h:=congrArg MemS.base (congrArg (fw g) (mW M));rw[xS] at h;exact h.symm
theorem oh(mb cb n:Nat)(A:Option Addr)(m cap:Nat)(base:Int)(F:HL)(hm:(mb,.lit [vS cb 0 n n,.slice A m cap,vI base] 162 (0,0))∈F)(hb:0 <= base /\ base <= 1000000000)(hl:m <= 100000000):Sp Tryz.prog 59 #[vP mb 0] [] F (λ u H'=>u=vI (base+(m:Int)) /\ H'=[]):=by
 have h:=Al mb cb n A m cap base F hm;rwa [dH (by omega)] at h
theorem pw{mb:Nat}{M:MemS}{k:Nat}{T F:HL}(h:MemH mb M k T)(hs:∀x∈T,x∈F)(hb:0 <= M.base /\ M.base <= 1000000000):Sp Tryz.prog 59 #[vP mb 0] [] F (λ u H'=>u=vI (M.base+(M.lg.length:Int)) /\ H'=[]):=by
 have h1:=h.len2;have h2:=Am h hs;rwa [dH (by omega)] at h2
theorem Sp.tl{P:Program}{f:FuncId}{args:Array Value}{H F:HL}{R:Value -> HL -> Prop}(h:Sp P f args H F R):Sp P f args H F (λ u H'=>∃x,H'=ap [] [x] /\ R u x):=h.mono λ u H' h=>⟨H',(aP H').symm,h⟩
section
variable {r:Option Nat} {P:Program} {N:Nat} {D:List Deferred} {F:HL} {w0:World} {R:HL} {s:Cfg} {Q:Exit -> Act -> World -> Prop} {hards:List Nat} {Rd:HL}
theorem RDO.slA{i:Nat}{A:Option Addr}{n cap l sz:Nat}{li:Int}(hl:li=(l:Int))(h1:l <= n)(h2:n <= cap)(hk:RD r P N D F w0 R hards Rd (yU N i (.slice (slA A l sz cap) (n-l) (cap-l)) s) Q)
  (h:RT P N (mO i s) s=some (A,n,cap,li,sz):=by kernel_rfl) (hx:hards.contains i=false:=by kernel_rfl):RDO r P N D F w0 R hards Rd i s Q:=by
 unfold RT at h;split at h
 case h_2=>cases h
 rename_i o q0;split at h
 case h_2=>cases h
 rename_i y hv hp;simp only[Option.some.injEq] at h;rw[h] at hv;clear h;obtain⟨t,x,lo,elem,inf,q1,q2,q3,q4,q5,q6,q7,q8⟩:=zi hv;obtain⟨c,k,L,Bs,Ts⟩:=s;unfold mO at q0;cases c with
 | code c=>cases q0
 | ex c=>cases q0
 | ops _ _=>cases q0
 | drw ops li2 =>
  refine⟨λ hR=>?_⟩;simp only at q0 q3 q5 q6 hp;have TZ:∀v L',fd N o.dst v L=some L' -> yU N i v ⟨.drw ops li2,k,L,Bs,Ts⟩=⟨.drw ops (bD li2 i true),k,L',Bs,Ts⟩:=by
   intro v L' hl;unfold yU;simp only[q0,hl]
  refine(mM (Q:=Q) (by simpa using q0) (σ:=Unit) (λ u _=>u=.slice (slA A l sz cap) (n-l) (cap-l)) (λ _=>ap Bs Ts) hp (λ a hF=>⟨by simp[Region.wanted,q1],λ w f_ hB=>?_⟩) (λ _=>⟨λ _=>⟨[],rfl⟩,λ hi=>?_⟩) ?_:RDO r P N D F w0 R hards Rd i ⟨.drw ops li2,k,L,Bs,Ts⟩ Q).h hR
  ·simp only[Bool.and_eq_true] at q3;have e1:=(hF.eval q3.1).trans q5;have e2:=(hF.eval q3.2).trans q6;have k1:=jR (P:=P) (ρ:=a.eval) (lo:=some lo) (hi:=none) (l:=l) (h:=n) (len:=n) (cap:=cap) (by show Fk _ _ _ _;unfold Fk;simp only[e2];exact hl) rfl h1 h2 w;have k2:=λ W=>dC q7 W;have k3:=λ W=>aN q4 W;unfold dR;have he:(execOp a.eval o).run P w=.ok (.value (.slice (slA A l sz cap) (n-l) (cap-l))) w:=by
    rw[show Option.map a.eval none=none from rfl,show Option.map a.eval (some lo)=some (a.eval lo) from rfl] at k1;simp[execOp,q2,Instr.sliceAt,Instr.slice,e1,k3,Go.sizeOf,k2,Sem.run_bind,k1,slA,q8]
   rw[he];exact⟨(),rfl,f_,Below.refl _ _⟩
  ·have h3:hards.contains i=true:=List.contains_iff_mem.2 hi;rw[hx] at h3;cases h3
  ·rintro u _ rfl L' TM hs;have h3:=hk.h hR;rw[TZ _ L' TM] at h3;exact h3 hs
end
theorem Bn(mb cb n:Nat)(A:Option Addr)(m cap:Nat)(base mk:Int)(F:HL)(hm:(mb,.lit [vS cb 0 n n,.slice A m cap,vI base] 162 (0,0))∈F)(hb:0 <= base /\ base <= 1000000000)(hl:m <= 100000000)(h1:base <= mk)(h2:mk <= base+(m:Int)):Sp Tryz.prog 84 #[vP mb 0,vI mk] [] F (λ u H'=>u=vI 0 /\ H'=[]):=by
 refine aav Tryz.func84 rfl (mc hm mn) (A:=[]) (Ts:=[]) rfl λ w0=>?_;refine ae 18 [.ro 0] λ _=>aam (mk<base) 5 (λ h1=>?_) λ h1=>?_
 ·(exfalso;omega)
 ·refine ae 5 [] λ _=>aai (oh mb cb n A m cap base _ (aq hm) hb hl)<|ae 4 [] λ _=>aam (mk>base+(m:Int)) 12 (λ h2=>?_) λ h2=>?_
  ·(exfalso;omega)
  ·refine ae 9 [] λ _=>?_;exact aaq [] [] [] ⟨rfl,rfl⟩
abbrev RB(x:Nat × Int × Int):Array Value:=#[vI (x.1:Int),.agg #[vI x.2.1,vI x.2.2]]
def LO(es:List (Int × Int)):List (Nat × Int × Int):=(List.range es.length).map λ k=>(es.length-1-k,es.getD (es.length-1-k) (0,0))
theorem yq(es:List (Int × Int)):(LO es).length=es.length:=by simp[LO]
theorem EY{es:List (Int × Int)}{k:Nat}(h:k<es.length):(LO es)[k]?=some (es.length-1-k,es.getD (es.length-1-k) (0,0)):=by simp[LO,h]
theorem KV{es:List (Int × Int)}{i:Nat}{x:Nat × Int × Int}(e:(LO es)[i]?=some x):i<es.length /\ x=(es.length-1-i,es.getD (es.length-1-i) (0,0)):=by
 have h1:i<es.length:=by have:=(List.getElem?_eq_some_iff.1 e).1;rwa [yq] at this
 rw[EY h1] at e;exact⟨h1,(Option.some.inj e).symm⟩
def oG(cs:List Int)(es:List (Int × Int))(j:Nat):List Int:=jd cs (es.drop (es.length-j))
theorem qu(cs:List Int):∀es:List (Int × Int),(jd cs es).length=cs.length
 | []=>rfl
 | e::es=>by
  show ((jd cs es).set _ _).length=_;rw[List.length_set,qu cs es]
theorem G8(cs:List Int)(es:List (Int × Int)):oG cs es 0=cs:=by unfold oG;rw[Nat.sub_zero,List.drop_length];rfl
theorem KW(cs:List Int)(es:List (Int × Int)):oG cs es es.length=jd cs es:=by unfold oG;rw[Nat.sub_self];rfl
theorem G9{cs:List Int}{es:List (Int × Int)}{j:Nat}(h:j<es.length):oG cs es (j+1)=(oG cs es j).set (es.getD (es.length-1-j) (0,0)).1.toNat (es.getD (es.length-1-j) (0,0)).2:=by
 have iS:es.length-1-j<es.length:=by omega
 unfold oG;rw[show es.length-(j+1)=es.length-1-j by omega,List.drop_eq_getElem_cons iS,show es.length-1-j+1=es.length-j by omega,List.getD_eq_getElem?_getD,List.getElem?_eq_getElem iS];rfl
theorem SlIs.capLe{α:Type}{e:Enc α}{T:TypeId}{l:List α}{A:Option Addr}{cap:Nat}{Hl:HL}(h:SlIs e T l A cap Hl):l.length <= cap:=by
 rcases h with ⟨_,rfl,rfl,_⟩|⟨b,o,full,_,_,h1,h2,h3⟩
 ·exact Nat.le_refl _
 ·exact h2
theorem gY{α:Type}{l:List α}{i:Nat}(h:i<l.length)(d:α):l.getD i d∈l:=by
 rw[List.getD_eq_getElem?_getD,List.getElem?_eq_getElem h];exact List.getElem_mem h
theorem SlIs.take{α:Type}{e:Enc α}{T:TypeId}{l:List α}{A:Option Addr}{cap:Nat}{Hl:HL}(h:SlIs e T l A cap Hl)(k:Nat):SlIs e T (l.take k) A cap Hl:=by
 rcases h with ⟨rfl,rfl,rfl,rfl⟩|⟨b,o,full,h1,h2,h3,h4,h5⟩
 ·rw[List.take_nil];exact aau _ _
 ·refine .inr ⟨b,o,full,h1,h2,h3,by rw[List.length_take];omega,?_⟩;rw[List.length_take]
  conv=>rhs;rw[<- h5]
  rw[List.take_take]
theorem KX{cs:List Int}{es:List (Int × Int)}{j:Nat}{a b:Int}(h:j<es.length)(e:(a,b)=es.getD (es.length-1-j) (0,0))(h2:a.toNat<cs.length):dG (aB (oG cs es j)) a.toNat 0 (vI b)=aB (oG cs es (j+1)):=by
 rw[gT (by unfold oG;rw[qu];exact h2),G9 h,<- e]
theorem KY(es:List (Int × Int))(A:Option Addr)(c q lp:Nat)(X F:HL)(J:Nat -> HL -> Prop)(Jx:HL -> Prop)(T0:HL)(hn:es.length <= 100000000)(hl:RowL dZ 195 F A es.length es)(hq:(q,.lit [.slice A es.length c] 160 (0,0))∈F)(hY:∀i x H Y,(LO es)[i]?=some x -> J i H -> YL Tryz.prog lp (RB x) H (Y++(X++F)) (λ b H'=>(b=true /\ J (i+1) H') \/ (b=false /\ Jx H')))(XI:J 0 T0):Sp Tryz.prog 127 #[.func (.yield lp) #[] #[],vP q 0] (ap [] [T0]) (X++F) (λ _ H'=>J (LO es).length H' \/ Jx H'):=by
 refine aav Tryz.func127 rfl (mc (List.mem_append_right _ hq) mn) (A:=[]) (Ts:=[T0]) rfl λ w0=>?_;refine ah 9 [.ro 0,.nw] [aI ((es.length:Int)-1)] λ _=>aC 3 (congrArg (λ v_=>(vI v_:Value)) (show (es.length:Int)-1=(es.length:Int)-1-((0:Nat):Int) by omega))<|aao (σ:=Nat × HL) (λ ⟨k,T_⟩=>⟨[(0,.func (.yield lp) #[] #[]),(1,vP q 0),(3,vI ((es.length:Int)-1-(k:Int)))],[],[T_],k <= es.length /\ J k T_,es.length-k⟩) (0,T0) [] [0] (⟨Nat.zero_le _,XI⟩) ?_;rintro⟨k,T_⟩ ⟨Xc,UW⟩ Tw;refine ae 7 [] λ _=>aam ((es.length:Int)-1-(k:Int) >= 0) 8 (λ h3=>?_) λ h3=>?_
 ·refine ae 11 [.ro 0] λ _=>?_;obtain⟨qx4,DO,Wo,fx4,YY,UH,Uh,YR,UP⟩:=(hl.up (X:=X)).at (k:=(es.length-1-k)) (by omega);refine aC 13 (congrArg (λ v_=>(.slice v_ es.length c:Value)) UH)<|aar (λ _=>(mc (List.mem_append_right _ hq) (mc Uh mn)))<|ah 2 [.ix (es.length-1-k),.rorow 1 (DO+(es.length-1-k)) 0,.rorow 1 (DO+(es.length-1-k)) 1] [((DO*2+(es.length-1-k)*2)+1)=(DO+(es.length-1-k))*2+1 /\ (DO+(es.length-1-k))<Wo,(DO*2+(es.length-1-k)*2)=(DO+(es.length-1-k))*2+0 /\ (DO+(es.length-1-k))<Wo,(es.length:Int)-1-(k:Int)=(((es.length-1-k):Nat):Int) /\ (es.length-1-k)<es.length] λ _=>aC 16 (congrArg (λ v_=>(.agg #[vI v_.1,vI v_.2]:Value)) UP)<|aC 12 (congrArg (λ v_=>(vI v_:Value)) (show (es.length:Int)-1-(k:Int)=((es.length-1-k:Nat):Int) by omega))<|aat 0 (hY k (es.length-1-k,es.getD (es.length-1-k) (0,0)) _ _ (EY (by omega)) UW) ?_;rintro b_ T5 (⟨rfl,hJ6⟩|⟨rfl,hJ6⟩)
  ·refine ah 12 [.gen,.nw] [aI (((es.length:Int)-1-(k:Int))-1)] λ _=>aC 3 (congrArg (λ v_=>(vI v_:Value)) (show ((es.length:Int)-1-(k:Int))-1=(es.length:Int)-1-((k+1:Nat):Int) by omega)) ?_;refine Tw (k+1,T5) [] [0] ?_
   try dsimp only
   exact⟨⟨by omega,hJ6⟩,by omega⟩
  ·refine ae 4 [] λ _=>aaq [] [] [0] (v:=.tuple #[]) (H':=(ap [] [T5])) ?_;rw[aP];exact .inr hJ6
 ·refine ae 5 [] λ _=>aaq [] [] [0] (v:=.tuple #[]) (H':=(ap [] [T_])) ?_;rw[aP];obtain rfl:k=es.length:=by omega
  exact .inl (by rw[yq];exact UW)
theorem Nm(es:List (Int × Int))(n:Nat)(A:Option Addr)(c q:Nat)(F:HL)(hn:es.length <= 100000000)(e:es.length=n)(hl:RowL dZ 195 F A n es)(hq:(q,.lit [.slice A n c] 160 (0,0))∈F):It Tryz.prog 127 #[vP q 0] F RB (LO es):=by
 subst e;intro X l J Jx H0 hY h0;have key:=KY es A c q l X F J Jx H0 hn hl hq hY h0;rw[aP] at key;exact key
theorem KZ(A:Option Addr)(m c:Nat)(F:HL):Sp Tryz.prog 104 #[.slice A m c] (ap [] []) F (λ u H'=>∃n:Nat,H'=ap [((n+0),.lit [.slice A m c] 160 (0,0))] [] /\ u=.func (.func 127) #[] #[vP (n+0) 0]):=by
 refine aav Tryz.func104 rfl mn (A:=[]) (Ts:=[]) rfl λ w0=>?_;refine ae 12 [] λ n1=>aaq [] [0] [] (v:=.func (.func 127) #[] #[vP (n1+0) 0]) (H':=(ap [((n1+0),.lit [.slice A m c] 160 (0,0))] [])) ?_;exact⟨_,rfl,rfl⟩
theorem K3(mb cb n0 k cap:Nat)(M:MemS)(A:Option Addr)(Hl F:HL)(hs:SlIs dZ 195 M.lg A cap Hl)(hc:M.cs.length <= 1000000)(hl:M.lg.length+k <= 100000000)(hb:0 <= M.base /\ M.base <= 1000000000)(Ul:n0 <= M.lg.length)(Up:∀e∈(M.lg.drop n0),0 <= e.1 /\ e.1<(M.cs.length:Int)):Sp Tryz.prog 82 #[vP mb 0,vI (M.base+(n0:Int))] (ap [(mb,.lit [vS cb 0 M.cs.length M.cs.length,.slice A M.lg.length cap,vI M.base] 162 (0,0)),(cb,.rows 1 M.cs.length (aB M.cs) 3 (0,0))] [Hl]) F (λ u H'=>u=vI 0 /\ MemH mb ⟨jd M.cs (M.lg.drop n0),M.lg.take n0,M.base⟩ k H'):=by
 have aeX:M.lg.length <= cap:=hs.capLe;refine Sp.runM Tryz.func82 rfl mn (A:=[(mb,.lit [vS cb 0 M.cs.length M.cs.length,.slice A M.lg.length cap,vI M.base] 162 (0,0)),(cb,.rows 1 M.cs.length (aB M.cs) 3 (0,0))]) (Ts:=[Hl]) rfl λ w0=>?_;refine ae 11 [.own 0] λ n1=>aai (Bn mb cb M.cs.length A M.lg.length cap M.base (M.base+(n0:Int)) _ (az 1) hb (by omega) (by omega) (by omega))<|ah 25 [.own 0,.own 1,.nw] [aI ((M.base+(n0:Int))-M.base)] λ _=>aC 6 (congrArg (λ v_=>(vI v_:Value)) (show M.base+(n0:Int)-M.base=(n0:Int) by omega))<|ae 6 [.own 0,.own 1] λ _=>RN.slA (A:=A) (n:=M.lg.length) (cap:=cap) (l:=n0) (sz:=2) rfl (by omega) aeX<|aaj (Hp:=[]) (Tp:=[]) [] [] (KZ (slA A n0 2 cap) (M.lg.length-n0) (cap-n0) _) ?_;rintro _ m2 rfl;refine ae 3 [] λ _=>aah 3 (congrArg (λ v_=>(.rows 1 M.cs.length v_ 3 (0,0):Blk)) (show (aB M.cs)=(aB (oG M.cs (M.lg.drop n0) 0)) from (congrArg aB (G8 M.cs (M.lg.drop n0)).symm)))<|RN.range (σ:=Nat) (τ:=Nat × Nat × Int × Int) (encs:=λ (x_:Nat × Int × Int)=>#[vI (x_.1:Int),.agg #[vI x_.2.1,vI x_.2.2]]) (xs:=(LO (M.lg.drop n0))) (enters_of Tryz.func127 (by kernel_rfl) rfl) (λ m_=>([(cb,.rows 1 M.cs.length (aB (oG M.cs (M.lg.drop n0) m_)) 3 (0,0))],[])) (λ i_ m_=>m_=i_) (λ c_ m_=>False) (λ ⟨m_,p_,a_,b_⟩=>⟨[(2,vP (n1+0) 0),(6,vI (n0:Int)),(8,vP p_ 0)],[(cb,.rows 1 M.cs.length (aB (oG M.cs (M.lg.drop n0) m_)) 3 (0,0)),(p_,.lit [vI a_,vI b_] 195 (0,0))],[],True,0⟩) (λ i_ x_ ⟨m_,p_,a_,b_⟩=>m_=i_ /\ i_<(M.lg.drop n0).length /\ (a_,b_)=(M.lg.drop n0).getD ((M.lg.drop n0).length-1-i_) (0,0)) 0 rfl [3] [] (Nm (M.lg.drop n0) (M.lg.length-n0) _ (cap-n0) (m2+0) _ (by rw[List.length_drop];omega) (by rw[List.length_drop]) (hs.drop (ak 0) rfl (by omega)) (az 0)) ?_ ?_ ?_ ?_
 ·rintro l_ i_ x_ m_ Y3 w4 hx5 rfl mt6;refine ae 4 (aab 2) λ n7=>?_;refine mt6 (m_,(n7+0),x_.2.1,x_.2.2) [1,0] [] ?_
  try dsimp only
  exact⟨rfl,(KV hx5).1,by rw[(KV hx5).2]⟩
 ·rintro l_ i_ x_ ⟨m_,p_,a_,b_⟩ Y8 w9 YP ⟨rfl,alG,I_⟩;have aeQ:=Up _ (gY (l:=(M.lg.drop n0)) (i:=(M.lg.drop n0).length-1-m_) (by omega) (0,0));rw[<- I_] at aeQ
  replace aeQ:0 <= a_ /\ a_<(M.cs.length:Int):=aeQ
  refine ae 1 [] λ _=>aal [9] []<|av [] [0,4,6,1,5,7,2,3,8] [.ro 1,.own 1,.own 1,.ro 2,.ix a_.toNat] [a_=((a_.toNat:Nat):Int) /\ a_.toNat<M.cs.length]<|aae 9 (gS [] [.row 0 a_.toNat 0] [(0+a_.toNat*1)=a_.toNat*1+0 /\ a_.toNat<M.cs.length] λ _=>?_);refine aad<|ae 1 [] λ _=>aah 0 (congrArg (λ v_=>(.rows 1 M.cs.length v_ 3 (0,0):Blk)) (show (dG (aB (oG M.cs (M.lg.drop n0) m_)) a_.toNat 0 (vI b_))=(aB (oG M.cs (M.lg.drop n0) (m_+1))) from (KX alG I_ (by omega))))<|RN.rn (m_+1) [0] [] ?_
  try dsimp only
  first|done|rfl
 ·rintro d11 m_  rfl;refine ae 3 [] λ _=>aal [9] []<|av [] [0,1,5,2,3,4,6,7,8] [.own 3,.own 3,.own 4,.sl0 n0] [(n0:Int)=((n0:Nat):Int) /\ n0 <= cap]<|aae 9 (aag [] [.own 4] λ _=>?_);refine aad<|ae 6 [] λ _=>RN.retM [d11] [0] [] [3,0] [0] (v:=vI 0) (H':=(ap [(mb,.lit [vS cb 0 M.cs.length M.cs.length,.slice A n0 cap,vI M.base] 162 (0,0)),(cb,.rows 1 M.cs.length (aB (oG M.cs (M.lg.drop n0) (LO (M.lg.drop n0)).length)) 3 (0,0))] [Hl])) ?_;refine⟨rfl,?_⟩;rw[yq,KW];have h_:=MemH.mk (mb:=mb) (M:=⟨jd M.cs (M.lg.drop n0),M.lg.take n0,M.base⟩) (k:=k) cb A cap Hl (hs.take n0) (by show (jd _ _).length <= _;rw[qu];exact hc) (by rw[List.length_take];omega);have e1_:(jd M.cs (M.lg.drop n0)).length=M.cs.length:=qu _ _;have Ze:(M.lg.take n0).length=n0:=by rw[List.length_take];omega
  dsimp only at h_;rw[e1_,Ze] at h_;exact h_
 ·exact λ _ _ _ h=>h.elim
theorem K4{mb n0 k k2:Nat}{M:MemS}{T:HL}(F:HL)(h:MemH mb M k T)(hk:k2 <= k)(hb:0 <= M.base /\ M.base <= 1000000000)(Ul:n0 <= M.lg.length)(Up:∀e∈(M.lg.drop n0),0 <= e.1 /\ e.1<(M.cs.length:Int)):Sp Tryz.prog 82 #[vP mb 0,vI (M.base+(n0:Int))] (ap [] [T]) F (λ u H'=>∃x,H'=ap [] [x] /\ (u=vI 0 /\ MemH mb ⟨jd M.cs (M.lg.drop n0),M.lg.take n0,M.base⟩ k2 x)):=by
 rw[aP];cases h with
 | mk cb A cap Hl hs hc hl=>exact(K3 mb cb n0 k2 cap M A Hl F hs hc (by omega) hb Ul Up).tl
theorem Bo(cs:List Int)(a b:List (Int × Int)):jd cs (a++b)=jd (jd cs b) a:=by unfold jd;rw[List.foldr_append]
theorem xe(cs:List Int):∀es:List (Int × Int),(jd cs es).length=cs.length
 | []=>rfl
 | e::es=>by
  show ((jd cs es).set _ _).length=_;rw[List.length_set,xe cs es]
def nh(M:MemS)(n:Nat):MemS:=⟨jd M.cs (M.lg.drop n),M.lg.take n,M.base⟩
def jx(M:MemS)(n:Nat):MemS:=⟨M.cs,M.lg.drop n,M.base+(n:Int)⟩
structure Rst(M:MemS)(mk:Int)(c:List Int):Prop where
 lo:M.base <= mk
 hi:mk <= M.base+(M.lg.length:Int)
 und:jd M.cs (M.lg.drop (mk-M.base).toNat)=c
 ent:∀e∈M.lg.drop (mk-M.base).toNat,0 <= e.1 /\ e.1<(M.cs.length:Int)
theorem Rst.now(M:MemS):Rst M (M.base+(M.lg.length:Int)) M.cs:=by
 have e:(M.base+(M.lg.length:Int)-M.base).toNat=M.lg.length:=by omega
 refine⟨by omega,by omega,?_,?_⟩
 ·rw[e,List.drop_length];rfl
 ·rw[e,List.drop_length];intro e he;cases he
theorem Rst.tick{M:MemS}{mk:Int}{c:List Int}(g:Gm)(h:Rst M mk c):Rst (fw g M) mk c:=by
 obtain⟨es,h1,h2,h3⟩:=O7 g M;have hl:=h.lo;have hh:=h.hi;have e:(fw g M).lg.drop (mk-M.base).toNat=M.lg.drop (mk-M.base).toNat++es:=by rw[h1,List.drop_append_of_le_length (by omega)]
 refine⟨by rw[h2];exact hl,by rw[h1,h2,List.length_append];omega,?_,?_⟩
 ·rw[h2,e,Bo];have:=h3.und;rw[show jd (fw g M).cs es=M.cs from this];exact h.und
 ·rw[h2,e];have hlen:(fw g M).cs.length=M.cs.length:=h3.len;intro x hx;rw[hlen];rcases List.mem_append.1 hx with hx|hx
  ·exact h.ent x hx
  ·exact h3.ent x hx
theorem Rst.undo{M:MemS}{mk:Int}{c:List Int}{n:Nat}(h:Rst M mk c)(h1:mk <= M.base+(n:Int))(h2:n <= M.lg.length):Rst (nh M n) mk c:=by
 have hl:=h.lo;have e:M.lg.drop (mk-M.base).toNat=(M.lg.take n).drop (mk-M.base).toNat++M.lg.drop n:=by
  conv=>lhs;rw[<- List.take_append_drop n M.lg]
  rw[List.drop_append_of_le_length (by rw[List.length_take];omega)]
 refine⟨hl,by show mk <= M.base+((M.lg.take n).length:Int);rw[List.length_take,Nat.min_eq_left h2];exact h1,?_,?_⟩
 ·show jd (jd M.cs (M.lg.drop n)) ((M.lg.take n).drop (mk-M.base).toNat)=c;rw[<- Bo,<- e];exact h.und
 ·intro x hx;show 0 <= x.1 /\ x.1<((jd M.cs (M.lg.drop n)).length:Int);rw[xe];exact h.ent x (by rw[e];exact List.mem_append_left _ hx)
theorem Rst.disc{M:MemS}{mk:Int}{c:List Int}{n:Nat}(h:Rst M mk c)(h1:M.base+(n:Int) <= mk)(h2:n <= M.lg.length):Rst (jx M n) mk c:=by
 have hh:=h.hi;have hl:=h.lo;have e:(M.lg.drop n).drop (mk-(M.base+(n:Int))).toNat=M.lg.drop (mk-M.base).toNat:=by
  rw[List.drop_drop];congr 1;omega
 refine⟨h1,by show mk <= M.base+(n:Int)+((M.lg.drop n).length:Int);rw[List.length_drop];omega,?_,?_⟩
 ·show jd M.cs ((M.lg.drop n).drop (mk-(M.base+(n:Int))).toNat)=c;rw[e];exact h.und
 ·show ∀x∈(M.lg.drop n).drop (mk-(M.base+(n:Int))).toNat,_;rw[e];exact h.ent
section
variable {ρ:Type} (g:Nat -> ρ -> Gm)
def Dn:Nat -> List Int -> List ρ -> List Int
 | _,c,[]=>c
 | t,c,r::V=>Dn (t+1) (fw (g t r) ⟨c,[],0⟩).cs V
def uG:Nat -> List Int -> List ρ -> List (List Eff)
 | _,_,[]=>[]
 | t,c,r::V=>lq (g t r) ⟨c,[],0⟩::uG (t+1) (fw (g t r) ⟨c,[],0⟩).cs V
theorem uH(r:ρ):∀ (V:List ρ) (t:Nat) (c:List Int),Dn g t c (V++[r])=(fw (g (t+V.length) r) ⟨Dn g t c V,[],0⟩).cs
 | [],_,_=>rfl
 | x::V,t,c=>by
  show Dn g (t+1) _ (V++[r])=_;rw[uH r V (t+1)];show _=(fw (g (t+(V.length+1)) r) ⟨Dn g (t+1) _ V,[],0⟩).cs;rw[show t+1+V.length=t+(V.length+1) by omega]
theorem uI(r:ρ):∀ (V:List ρ) (t:Nat) (c:List Int),uG g t c (V++[r])=uG g t c V++[lq (g (t+V.length) r) ⟨Dn g t c V,[],0⟩]
 | [],_,_=>rfl
 | x::V,t,c=>by
  show _::uG g (t+1) _ (V++[r])=_;rw[uI r V (t+1)];show _=_::(uG g (t+1) _ V++[lq (g (t+(V.length+1)) r) ⟨Dn g (t+1) _ V,[],0⟩]);rw[show t+1+V.length=t+(V.length+1) by omega]
theorem yr:∀ (V:List ρ) (t:Nat) (c:List Int),(uG g t c V).length=V.length
 | [],_,_=>rfl
 | x::V,t,c=>by
  show (uG g (t+1) _ V).length+1=V.length+1;rw[yr V]
theorem qx:∀ (V:List ρ) (t:Nat) (c:List Int) (n:Nat),(uG g t c V).take n=uG g t c (V.take n)
 | [],_,_,n=>by cases n <;> rfl
 | x::V,t,c,0=>rfl
 | x::V,t,c,n+1=>by
  show _::(uG g (t+1) _ V).take n=_::uG g (t+1) _ (V.take n);rw[qx V]
structure PS(ρ:Type) where
 M:MemS
 a:Nat
 ms:List Int
 rows:List ρ
 ck:Nat
 used:List ρ
 effs:List (List Eff)
 rb:Nat
variable (c0:List Int) (w:Nat)
structure PInv(S:PS ρ)(V:List ρ)(m:Nat):Prop where
 cs:S.M.cs=Dn g 0 c0 V
 effs:S.effs=uG g 0 c0 V
 ck:S.ck <= m
 mV:m <= V.length
 mR:m <= S.rows.length
 eq:V.take m=S.rows.take m
 used:S.used=V.drop S.ck
 win:V.length <= S.rows.length+w
 ring:(S.ms=[] /\ V=[]) \/ (S.ms≠[] /\ (S.a+S.ms.length=V.length \/ S.a+S.ms.length=V.length+1))
 rst:∀ (i:Nat) (k:Int),S.ms[i]?=some k -> Rst S.M k (Dn g 0 c0 (V.take (S.a+i)))
 mono:∀ (i j:Nat) (k l:Int),i <= j -> S.ms[i]?=some k -> S.ms[j]?=some l -> k <= l
 back:S.ms≠[] -> S.a <= m
 room:S.ms.length <= w
variable {g c0 w}
variable {S:PS ρ} {V:List ρ} {m:Nat}
theorem uJ(M:MemS)(a:Nat):PInv g M.cs w (⟨M,a,[],[],0,[],[],0⟩:PS ρ) [] 0 :=
 ⟨rfl,rfl,Nat.le_refl _,Nat.le_refl _,Nat.le_refl _,rfl,rfl,Nat.zero_le _,.inl ⟨rfl,rfl⟩,λ i k h=>(by cases i <;> cases h),λ i j k l _ h=>(by cases i <;> cases h),λ h=>absurd rfl h,Nat.zero_le _⟩
def dD(S:PS ρ)(r:ρ):PS ρ:={ S with rows:=S.rows++[r] }
theorem PInv.conf(h:PInv g c0 w S V m)(r:ρ):PInv g c0 w (dD S r) V m:=by
 have h1:=h.mR;refine⟨h.cs,h.effs,h.ck,h.mV,by show m <= (S.rows++[r]).length;rw[List.length_append];omega,?_,h.used,by show _ <= (S.rows++[r]).length+w;rw[List.length_append];have:=h.win;omega,h.ring,h.rst,h.mono,h.back,h.room⟩;show V.take m=(S.rows++[r]).take m;rw[List.take_append_of_le_length h1];exact h.eq
def Bp(S:PS ρ)(x:Nat):PS ρ:={ S with M:=nh S.M ((S.ms.getD (x-S.a) 0)-S.M.base).toNat,ms:=S.ms.take (x-S.a+1),used:=S.used.take (x-S.ck),effs:=S.effs.take x,rb:=S.rb+1 }
theorem PInv.roll(h:PInv g c0 w S V m){x:Nat}(h1:m <= x)(h2:x<V.length)(h3:∀t,m <= t -> t<x -> V[t]?=S.rows[t]?)(h4:x <= S.rows.length):PInv g c0 w (Bp S x) (V.take x) x:=by
 have YB:=h.ck;have hmV:=h.mV;have IF:S.ms≠[]:=by
  rcases h.ring with ⟨_,e⟩|⟨e,_⟩
  ·rw[e] at h2;simp at h2
  ·exact e
 have hba:=h.back IF;have hlen:x-S.a<S.ms.length:=by
  rcases h.ring with ⟨e,_⟩|⟨_,e|e⟩
  ·exact absurd e IF
  ·omega
  ·omega
 obtain⟨mk,XC⟩:∃mk,S.ms[x-S.a]?=some mk:=⟨_,List.getElem?_eq_getElem hlen⟩;have hr:=h.rst _ _ XC;have hlo:=hr.lo;have hhi:=hr.hi;have eg:S.ms.getD (x-S.a) 0=mk:=by rw[List.getD_eq_getElem?_getD,XC];rfl
 have ex:S.a+(x-S.a)=x:=by omega
 rw[ex] at hr;have hn:(mk-S.M.base).toNat <= S.M.lg.length:=by omega
 have hn2:S.M.base+((mk-S.M.base).toNat:Int)=mk:=by omega
 have lV:(V.take x).length=x:=by rw[List.length_take];omega
 refine⟨?_,?_,by show S.ck <= x;omega,by rw[lV];exact Nat.le_refl _,h4,?_,?_,by rw[lV];show x <= S.rows.length+w;omega,?_,?_,?_,λ _=>by show S.a <= x;omega,by show (S.ms.take _).length <= w;rw[List.length_take];have:=h.room;omega⟩
 ·show jd S.M.cs (S.M.lg.drop (S.ms.getD (x-S.a) 0-S.M.base).toNat)=_;rw[eg];exact hr.und
 ·show S.effs.take x=_;rw[h.effs,qx]
 ·show (V.take x).take x=S.rows.take x;rw[List.take_take,Nat.min_self];apply List.ext_getElem?;intro t;rw[List.getElem?_take,List.getElem?_take];split
  ·next ht =>
   by_cases hm:m <= t
   ·exact h3 t hm ht
   ·have:=congrArg (·[t]?) h.eq;simpa [List.getElem?_take,show t<m by omega] using this
  ·rfl
 ·show S.used.take (x-S.ck)=(V.take x).drop S.ck;rw[h.used,List.drop_take]
 ·right;refine⟨?_,.inr ?_⟩
  ·show S.ms.take (x-S.a+1)≠[];intro e;have:=congrArg List.length e;rw[List.length_take,List.length_nil] at this;omega
  ·show S.a+(S.ms.take (x-S.a+1)).length=_;rw[List.length_take,lV];omega
 ·intro i k hk;have hk:(S.ms.take (x-S.a+1))[i]?=some k:=hk;rw[List.getElem?_take] at hk;split at hk
  ·next hi =>
   have hri:=h.rst i k hk;have hle:=h.mono i (x-S.a) k mk (by omega) hk XC;have:=hri.undo (n:=(S.ms.getD (x-S.a) 0-S.M.base).toNat) (by rw[eg];omega) (by rw[eg];exact hn);show Rst (nh S.M _) k (Dn g 0 c0 ((V.take x).take (S.a+i)));rw[List.take_take,Nat.min_eq_left (by omega)];exact this
  ·cases hk
 ·intro i j k l hij hk hl;have hk:(S.ms.take (x-S.a+1))[i]?=some k:=hk;have hl:(S.ms.take (x-S.a+1))[j]?=some l:=hl;rw[List.getElem?_take] at hk hl;split at hk
  ·split at hl
   ·exact h.mono i j k l hij hk hl
   ·cases hl
  ·cases hk
def fc(w:Nat)(S:PS ρ)(now:Nat):PS ρ :=
 if S.ms≠[] /\ S.a+S.ms.length=now+1 then S else
 let mk:=S.M.base+(S.M.lg.length:Int)
 let a:=if S.ms=[] then now else S.a
 if w<S.ms.length+1 then { S with M:=jx S.M (((S.ms++[mk]).getD 1 0)-S.M.base).toNat,a:=a+1,ms:=(S.ms++[mk]).drop 1 } else { S with a:=a,ms:=S.ms++[mk] }
def nj(g:Nat -> ρ -> Gm)(w:Nat)(S:PS ρ)(now:Nat)(r:ρ):PS ρ :=
 { fc w S now with M:=fw (g now r) (fc w S now).M,used:=S.used++[r],effs:=S.effs++[lq (g now r) (fc w S now).M] }
structure PInvP(S:PS ρ)(V:List ρ)(m:Nat):Prop where
 inv:PInv g c0 w S V m
 full:S.ms≠[] /\ S.a+S.ms.length=V.length+1
theorem pz(w:Nat)(S:PS ρ)(now:Nat):(fc w S now).M.cs=S.M.cs /\ (fc w S now).rows=S.rows /\ (fc w S now).ck=S.ck /\ (fc w S now).used=S.used /\ (fc w S now).effs=S.effs /\ (fc w S now).rb=S.rb:=by
 unfold fc;split
 ·exact⟨rfl,rfl,rfl,rfl,rfl,rfl⟩
 ·dsimp only;split <;> exact⟨rfl,rfl,rfl,rfl,rfl,rfl⟩
theorem PInv.push(h:PInv g c0 w S V m)(hw:1 <= w)(hm:m=min V.length S.rows.length)(hv:V.length<S.rows.length+w):PInvP (g:=g) (c0:=c0) (w:=w) (fc w S V.length) V m:=by
 obtain⟨r1,r2,r3,r4,r5,r6⟩:=pz w S V.length
 by_cases hk:S.ms≠[] /\ S.a+S.ms.length=V.length+1
 ·have e:fc w S V.length=S:=by unfold fc;rw[if_pos hk]
  rw[e];exact⟨h,hk⟩
 ·-- one mark more
  have TG:=Rst.now S.M;generalize XC:S.M.base+(S.M.lg.length:Int)=mk at TG;obtain⟨a,ha⟩:∃a,a=if S.ms=[] then V.length else S.a:=⟨_,rfl⟩
  have hal:a+S.ms.length=V.length:=by
   rcases h.ring with ⟨e1,e2⟩|⟨e1,e2|e2⟩
   ·rw[ha,if_pos e1,e1];simp
   ·rw[ha,if_neg e1];exact e2
   ·exact absurd ⟨e1,e2⟩ hk
  have Yz:∀ (i:Nat) (k:Int),(S.ms++[mk])[i]?=some k -> Rst S.M k (Dn g 0 c0 (V.take (a+i))):=by
   intro i k hi;rcases Nat.lt_or_ge i S.ms.length with iS|WO
   ·rw[List.getElem?_append_left iS] at hi;have IF:S.ms≠[]:=by intro e;rw[e] at iS;simp at iS
    have:=h.rst i k hi;rw[ha,if_neg IF];exact this
   ·rw[List.getElem?_append_right WO] at hi;have h0:i-S.ms.length=0:=by
     rcases Nat.eq_zero_or_pos (i-S.ms.length) with h0|h0
     ·exact h0
     ·rw[List.getElem?_eq_none (by simp;omega)] at hi;cases hi
    rw[h0] at hi;have e:k=mk:=by simpa using hi.symm
    subst e;rw[show a+i=V.length by omega,List.take_length,<- h.cs];exact TG
  have O_:∀ (i j:Nat) (k l:Int),i <= j -> (S.ms++[mk])[i]?=some k -> (S.ms++[mk])[j]?=some l -> k <= l:=by
   intro i j k l hij hi hj;rcases Nat.lt_or_ge j S.ms.length with iS|WO
   ·rw[List.getElem?_append_left iS] at hj;rw[List.getElem?_append_left (by omega)] at hi;exact h.mono i j k l hij hi hj
   ·rw[List.getElem?_append_right WO] at hj;have h0:j-S.ms.length=0:=by
     rcases Nat.eq_zero_or_pos (j-S.ms.length) with h0|h0
     ·exact h0
     ·rw[List.getElem?_eq_none (by simp;omega)] at hj;cases hj
    rw[h0] at hj;have e:l=mk:=by simpa using hj.symm
    subst e;have:=(Yz i k hi).hi;omega
  by_cases hlen:w<S.ms.length+1
  ·-- the akk goes
   have e:fc w S V.length={ S with M:=jx S.M (((S.ms++[mk]).getD 1 0)-S.M.base).toNat,a:=a+1,ms:=(S.ms++[mk]).drop 1 }:=by
    unfold fc;rw[if_neg hk];dsimp only;rw[XC,if_pos hlen,<- ha]
   rw[e];have L_:=h.room;have Uj:1<(S.ms++[mk]).length:=by rw[List.length_append,List.length_singleton];omega
   obtain⟨k1,VN⟩:∃k1,(S.ms++[mk])[1]?=some k1:=⟨_,List.getElem?_eq_getElem Uj⟩;have eg:(S.ms++[mk]).getD 1 0=k1:=by rw[List.getD_eq_getElem?_getD,VN];rfl
   have ZP:=Yz 1 k1 VN;have hlo:=ZP.lo;have hhi:=ZP.hi;refine⟨⟨h.cs,h.effs,h.ck,h.mV,h.mR,h.eq,h.used,h.win,.inr ⟨?_,.inr ?_⟩,?_,?_,λ _=>?_,?_⟩,?_,?_⟩
   ·intro e2;have e3:((S.ms++[mk]).drop 1).length=0:=congrArg List.length e2;rw[List.length_drop,List.length_append,List.length_singleton] at e3;omega
   ·show a+1+((S.ms++[mk]).drop 1).length=_;rw[List.length_drop,List.length_append,List.length_singleton];omega
   ·intro i k hi;have hi:((S.ms++[mk]).drop 1)[i]?=some k:=hi;rw[List.getElem?_drop] at hi;have h5:=Yz (1+i) k hi;have h6:=O_ 1 (1+i) k1 k (by omega) VN hi;have:=h5.disc (n:=((S.ms++[mk]).getD 1 0-S.M.base).toNat) (by rw[eg];omega) (by rw[eg];omega);show Rst (jx S.M _) k (Dn g 0 c0 (V.take (a+1+i)));rw[show a+1+i=a+(1+i) by omega];exact this
   ·intro i j k l hij hi hj;have hi:((S.ms++[mk]).drop 1)[i]?=some k:=hi;have hj:((S.ms++[mk]).drop 1)[j]?=some l:=hj;rw[List.getElem?_drop] at hi hj;exact O_ (1+i) (1+j) k l (by omega) hi hj
   ·show a+1 <= m;omega
   ·show ((S.ms++[mk]).drop 1).length <= w;rw[List.length_drop,List.length_append,List.length_singleton];omega
   ·intro e2;have e3:((S.ms++[mk]).drop 1).length=0:=congrArg List.length e2;rw[List.length_drop,List.length_append,List.length_singleton] at e3;omega
   ·show a+1+((S.ms++[mk]).drop 1).length=_;rw[List.length_drop,List.length_append,List.length_singleton];omega
  ·have e:fc w S V.length={ S with a:=a,ms:=S.ms++[mk] }:=by
    unfold fc;rw[if_neg hk];dsimp only;rw[XC,if_neg hlen,<- ha]
   rw[e];refine⟨⟨h.cs,h.effs,h.ck,h.mV,h.mR,h.eq,h.used,h.win,.inr ⟨by simp,.inr ?_⟩,Yz,O_,λ _=>?_,?_⟩,by simp,?_⟩
   ·show a+(S.ms++[mk]).length=_;rw[List.length_append,List.length_singleton];omega
   ·show a <= m
    by_cases e0:S.ms=[]
    ·rcases h.ring with ⟨_,e2⟩|⟨e1,_⟩
     ·rw[ha,if_pos e0,e2];simp
     ·exact absurd e0 e1
    ·rw[ha,if_neg e0];exact h.back e0
   ·show (S.ms++[mk]).length <= w;rw[List.length_append,List.length_singleton];omega
   ·show a+(S.ms++[mk]).length=_;rw[List.length_append,List.length_singleton];omega
theorem PInv.sim(h:PInv g c0 w S V m)(hw:1 <= w)(hm:m=min V.length S.rows.length)(hv:V.length<S.rows.length+w)(r:ρ)(hr:V.length<S.rows.length -> S.rows[V.length]?=some r):PInv g c0 w (nj g w S V.length r) (V++[r]) (min (V++[r]).length S.rows.length):=by
 obtain⟨r1,r2,r3,r4,r5,r6⟩:=pz w S V.length;obtain⟨hp,IF,Xe⟩:=h.push hw hm hv;unfold nj;generalize fc w S V.length=S1 at *;have hmR:=h.mR;have YB:=h.ck;have lV:(V++[r]).length=V.length+1:=by rw[List.length_append];rfl
 rw[lV];refine⟨?_,?_,by show S1.ck <= _;rw[r3];omega,by rw[lV];omega,by show _ <= S1.rows.length;rw[r2];omega,?_,?_,by rw[lV];show _ <= S1.rows.length+w;rw[r2];omega,.inr ⟨IF,.inl (by rw[lV];exact Xe)⟩,?_,hp.mono,λ hn=>by have:=hp.back hn;show S1.a <= _;omega,hp.room⟩
 ·show (fw (g V.length r) S1.M).cs=_;rw[uH,Nat.zero_add];exact o9 _ hp.cs
 ·show S.effs++[lq (g V.length r) S1.M]=_;rw[uI,Nat.zero_add,h.effs];congr 2;exact qR _ hp.cs
 ·show (V++[r]).take (min (V.length+1) S.rows.length)=S1.rows.take _;rw[r2]
  by_cases iS:V.length<S.rows.length
  ·have e1:min (V.length+1) S.rows.length=V.length+1:=by omega
   have e2:m=V.length:=by omega
   have heq:=h.eq;rw[e2,List.take_length] at heq;rw[e1,List.take_of_length_le (by rw[lV];exact Nat.le_refl _),List.take_add_one,hr iS,<- heq];rfl
  ·have e1:min (V.length+1) S.rows.length=m:=by omega
   rw[e1,List.take_append_of_le_length (by omega)];exact h.eq
 ·show S.used++[r]=(V++[r]).drop S1.ck;rw[r3,List.drop_append_of_le_length (by have:=h.mV;omega),h.used]
 ·intro i k hi;have h5:=(hp.rst i k hi).tick (g V.length r);have WN:i<S1.ms.length:=(List.getElem?_eq_some_iff.1 hi).1;show Rst (fw (g V.length r) S1.M) k (Dn g 0 c0 ((V++[r]).take (S1.a+i)));rw[List.take_append_of_le_length (by omega)];exact h5
def Nn(S:PS ρ)(now:Nat):PS ρ:={ S with used:=S.used.drop (min now S.rows.length-S.ck),ck:=min now S.rows.length }
theorem PInv.settle(h:PInv g c0 w S V m)(hm:m=min V.length S.rows.length):PInv g c0 w (Nn S V.length) V m:=by
 have YB:=h.ck;refine⟨h.cs,h.effs,by show min V.length S.rows.length <= m;omega,h.mV,h.mR,h.eq,?_,h.win,h.ring,h.rst,h.mono,h.back,h.room⟩;show S.used.drop (min V.length S.rows.length-S.ck)=V.drop (min V.length S.rows.length);rw[h.used,List.drop_drop];congr 1;omega
theorem PInv.clean(h:PInv g c0 w S V m)(hc:∀t,m <= t -> t<V.length -> t<S.rows.length -> V[t]?=S.rows[t]?):PInv g c0 w S V (min V.length S.rows.length):=by
 have h1:=h.mV;have h2:=h.mR;have h3:=h.ck;refine⟨h.cs,h.effs,by omega,by omega,by omega,?_,h.used,h.win,h.ring,h.rst,h.mono,λ e=>by have:=h.back e;omega,h.room⟩;apply List.ext_getElem?;intro t;rw[List.getElem?_take,List.getElem?_take];split
 ·next ht =>
  by_cases hm:m <= t
  ·exact hc t hm (by omega) (by omega)
  ·have:=congrArg (·[t]?) h.eq;simpa [List.getElem?_take,show t<m by omega] using this
 ·rfl
def wr [DecidableEq ρ](rows:List ρ):Nat -> List ρ -> Option Nat
 | _,[]=>none
 | t,u::l=>match rows[t]? with
  | none=>none
  | some r=>if u=r then wr rows (t+1) l else some t
theorem EZ [DecidableEq ρ]{rows:List ρ}:∀ {l:List ρ} {t:Nat},wr rows t l=none -> ∀i,i<l.length -> t+i<rows.length -> l[i]?=rows[t+i]?
 | [],_,_,i,hi,_=>by cases hi
 | u::l,t,h,i,hi,hr=>by
  rw[wr] at h;have ht:t<rows.length:=by omega
  rw[List.getElem?_eq_getElem ht] at h;simp only at h;split at h
  ·next e =>
   cases i with
   | zero=>rw[Nat.add_zero,List.getElem?_eq_getElem ht,<- e];rfl
   | succ i =>
    have:=EZ h i (by simpa using hi) (by omega);rw[List.getElem?_cons_succ,this];congr 1;omega
  ·cases h
theorem yt [DecidableEq ρ]{rows:List ρ}:∀ {l:List ρ} {t x:Nat},wr rows t l=some x -> t <= x /\ x<t+l.length /\ x<rows.length /\ (∀i,t+i<x -> l[i]?=rows[t+i]?) /\ l[x-t]? ≠ rows[x]?
 | [],_,_,h=>by cases h
 | u::l,t,x,h=>by
  rw[wr] at h;split at h
  ·cases h
  ·next r hr =>
   have ht:t<rows.length:=(List.getElem?_eq_some_iff.1 hr).1;split at h
   ·next e =>
    obtain⟨h1,h2,h3,h4,h5⟩:=yt h;refine⟨by omega,by simp only[List.length_cons];omega,h3,?_,?_⟩
    ·intro i hi;cases i with
     | zero=>rw[Nat.add_zero,hr,<- e];rfl
     | succ i =>
      rw[List.getElem?_cons_succ,h4 i (by omega)];congr 1;omega
    ·rw[show x-t=(x-(t+1))+1 by omega,List.getElem?_cons_succ];exact h5
   ·next e =>
    simp only[Option.some.injEq] at h;subst h;refine⟨Nat.le_refl _,by simp,ht,λ i hi=>absurd hi (by omega),?_⟩;rw[Nat.sub_self,hr];intro e2;exact e (by simpa using e2)
def im(g:Nat -> ρ -> Gm)(w:Nat)(rf:Nat -> ρ):Nat -> PS ρ -> Nat -> PS ρ
 | 0,S,_=>S
 | n+1,S,now=>im g w rf n (nj g w S now (rf now)) (now+1)
def kO(rf:Nat -> ρ):Nat -> Nat -> List ρ
 | 0,_=>[]
 | n+1,now=>rf now::kO rf n (now+1)
theorem rt(rf:Nat -> ρ):∀ (n now:Nat),(kO rf n now).length=n
 | 0,_=>rfl
 | n+1,now=>by rw[kO,List.length_cons,rt rf n]
theorem iK(S:PS ρ)(now:Nat)(r:ρ):(nj g w S now r).rows=S.rows /\ (nj g w S now r).rb=S.rb /\ (nj g w S now r).ck=S.ck:=by
 obtain⟨r1,r2,r3,r4,r5,r6⟩:=pz w S now;exact⟨r2,r6,r3⟩
theorem pA(rf:Nat -> ρ):∀ (n:Nat) (S:PS ρ) (now:Nat),(im g w rf n S now).rows=S.rows /\ (im g w rf n S now).rb=S.rb /\ (im g w rf n S now).ck=S.ck
 | 0,_,_=>⟨rfl,rfl,rfl⟩
 | n+1,S,now=>by
  rw[im];obtain⟨h1,h2,h3⟩:=pA rf n (nj g w S now (rf now)) (now+1);obtain⟨k1,k2,k3⟩:=iK (g:=g) (w:=w) S now (rf now);exact⟨h1.trans k1,h2.trans k2,h3.trans k3⟩
theorem ru(hw:1 <= w)(rf:Nat -> ρ):∀ (n:Nat) (S:PS ρ) (V:List ρ),PInv g c0 w S V (min V.length S.rows.length) -> V.length+n <= S.rows.length+w -> (∀t,t<S.rows.length -> S.rows[t]?=some (rf t)) ->
  PInv g c0 w (im g w rf n S V.length) (V++kO rf n V.length) (min (V.length+n) S.rows.length)
 | 0,S,V,h,_,_=>by rw[im,kO,List.append_nil];exact h
 | n+1,S,V,h,hn,hr=>by
  rw[im,kO];obtain⟨k1,k2,k3⟩:=iK (g:=g) (w:=w) S V.length (rf V.length);have h1:=h.sim hw rfl (by omega) (rf V.length) (hr V.length);have lV:(V++[rf V.length]).length=V.length+1:=by rw[List.length_append];rfl
  have h2:=ru hw rf n (nj g w S V.length (rf V.length)) (V++[rf V.length]) (by rw[k1];exact h1) (by rw[k1,lV];omega) (by rw[k1];exact hr);rw[lV,k1,List.append_assoc] at h2;rw[show V.length+(n+1)=V.length+1+n by omega];exact h2
def adv1 [DecidableEq ρ](S:PS ρ):PS ρ:=match wr S.rows S.ck S.used with
 | some x=>Bp S x
 | none=>S
def fj [DecidableEq ρ](S:PS ρ)(now:Nat):Nat:=(wr S.rows S.ck S.used).getD now
def uK [DecidableEq ρ](g:Nat -> ρ -> Gm)(w:Nat)(S:PS ρ)(now T:Nat)(rf:Nat -> ρ):PS ρ :=
 Nn (im g w rf (T-fj S now) (adv1 S) (fj S now)) T
def Bq [DecidableEq ρ](S:PS ρ)(V:List ρ)(T:Nat)(rf:Nat -> ρ):List ρ:=V.take (fj S V.length)++kO rf (T-fj S V.length) (fj S V.length)
theorem PInv.adv1 [DecidableEq ρ](h:PInv g c0 w S V m):PInv g c0 w (adv1 S) (V.take (fj S V.length)) (min (fj S V.length) S.rows.length) /\ (Go.Proofs.YtdppjkjbghbnjaaGreatDoor.adv1 S).rows=S.rows /\ fj S V.length <= V.length /\ m <= fj S V.length /\ (Go.Proofs.YtdppjkjbghbnjaaGreatDoor.adv1 S).rb=S.rb+(if fj S V.length<V.length then 1 else 0):=by
 have hu:=h.used;have h1:=h.mV;have h2:=h.ck;have h3:=h.mR;unfold Go.Proofs.YtdppjkjbghbnjaaGreatDoor.adv1 fj;cases hx:wr S.rows S.ck S.used with
 | none =>
  have hc:=EZ hx;simp only[Option.getD_none];refine⟨?_,by trivial,Nat.le_refl _,h1,by simp⟩;rw[List.take_length];refine h.clean λ t ht1 ht2 ht3=>?_;have:=hc (t-S.ck) (by rw[hu,List.length_drop];omega) (by omega);rw[hu,List.getElem?_drop,show S.ck+(t-S.ck)=t by omega] at this;exact this
 | some x =>
  obtain⟨k1,k2,k3,k4,k5⟩:=yt hx;rw[hu,List.length_drop] at k2;simp only[Option.getD_some];have hxV:x<V.length:=by omega
  have hmx:m <= x:=by
   rcases Nat.lt_or_ge x m with iS|WO
   ·exfalso;apply k5;rw[hu,List.getElem?_drop,show S.ck+(x-S.ck)=x by omega];have:=congrArg (·[x]?) h.eq;simpa [List.getElem?_take,iS] using this
   ·exact WO
  have hr:=h.roll hmx hxV (λ t ht1 ht2=>by
   have:=k4 (t-S.ck) (by omega);rw[hu,List.getElem?_drop,show S.ck+(t-S.ck)=t by omega] at this;exact this) (by omega)
  refine⟨?_,rfl,by omega,hmx,?_⟩
  ·rw[show min x S.rows.length=x by omega];exact hr
  ·rw[if_pos hxV];rfl
theorem PInv.adv [DecidableEq ρ](h:PInv g c0 w S V m)(hw:1 <= w){T:Nat}(h1:V.length <= T)(h2:T <= S.rows.length+w)(rf:Nat -> ρ)(hr:∀t,t<S.rows.length -> S.rows[t]?=some (rf t)) :
  PInv g c0 w (uK g w S V.length T rf) (Bq S V T rf) (min T S.rows.length) /\ (Bq S V T rf).length=T /\ (uK g w S V.length T rf).rows=S.rows /\ (uK g w S V.length T rf).rb=S.rb+(if fj S V.length<V.length then 1 else 0):=by
 obtain⟨k1,k2,k3,k4,k5⟩:=h.adv1;unfold uK Bq;generalize Go.Proofs.YtdppjkjbghbnjaaGreatDoor.adv1 S=S1 at *;generalize fj S V.length=n1 at *;have lV:(V.take n1).length=n1:=by rw[List.length_take];omega
 have h3:=ru hw rf (T-n1) S1 (V.take n1) (by rw[lV,k2];exact k1) (by rw[lV,k2];omega) (by rw[k2];exact hr);rw[lV,k2] at h3;obtain⟨r1,r2,r3⟩:=pA (g:=g) (w:=w) rf (T-n1) S1 n1;have lT:(V.take n1++kO rf (T-n1) n1).length=T:=by rw[List.length_append,rt,lV];omega
 have e:n1+(T-n1)=T:=by omega
 rw[e] at h3;have h4:=h3.settle (by rw[lT,r1,k2]);rw[lT] at h4;exact⟨h4,lT,r1.trans k2,r2.trans k5⟩
end
theorem SlIs.dropI{α:Type}{e:Enc α}{T:TypeId}{l:List α}{A:Option Addr}{cap:Nat}{Hl:HL}(h:SlIs e T l A cap Hl){k:Nat}(hk:k=0 \/ k<l.length):SlIs e T (l.drop k) (slA A k e.w cap) (cap-k) Hl:=by
 rcases hk with rfl|hk
 ·have e1:slA A 0 e.w cap=A:=by
   unfold slA;split
   ·rfl
   ·rcases h with ⟨rfl,_⟩|⟨b,o,full,rfl,_⟩
    ·rfl
    ·rw[Option.map_some,iX rfl];simp[vh]
  rw[e1];exact h
 ·rcases h with ⟨_,_,rfl,_⟩|⟨b,o,full,rfl,rfl,h1,h2,h3⟩
  ·simp at hk
  ·refine .inr ⟨b,o+k,full,?_,by rw[show o+k+(cap-k)=o+cap by omega],by omega,by rw[List.length_drop];omega,?_⟩
   ·unfold slA;rw[if_neg (by omega),Option.map_some,iX rfl];simp[vh,Nat.add_mul]
   ·rw[List.length_drop]
    conv=>rhs;rw[<- h3]
    rw[List.drop_take,List.drop_drop]
theorem Np(mb cb n0 k cap:Nat)(M:MemS)(A:Option Addr)(Hl F:HL)(hs:SlIs dZ 195 M.lg A cap Hl)(hc:M.cs.length <= 1000000)(hl:M.lg.length <= 100000000)(hb:0 <= M.base /\ M.base <= 1000000000)(Ul:n0 <= M.lg.length)(hk:M.lg.length-n0+k <= 100000000):Sp Tryz.prog 58 #[vP mb 0,vI (M.base+(n0:Int))] (ap [(mb,.lit [vS cb 0 M.cs.length M.cs.length,.slice A M.lg.length cap,vI M.base] 162 (0,0)),(cb,.rows 1 M.cs.length (aB M.cs) 3 (0,0))] [Hl]) F (λ u H'=>u=vI 0 /\ MemH mb (jx M n0) k H'):=by
 have aeX:M.lg.length <= cap:=hs.capLe;refine aav Tryz.func58 rfl mn (A:=[(mb,.lit [vS cb 0 M.cs.length M.cs.length,.slice A M.lg.length cap,vI M.base] 162 (0,0)),(cb,.rows 1 M.cs.length (aB M.cs) 3 (0,0))]) (Ts:=[Hl]) rfl λ w0=>?_;refine ae 10 [] λ _=>aai (Bn mb cb M.cs.length A M.lg.length cap M.base (M.base+(n0:Int)) _ (az 0) hb (by omega) (by omega) (by omega))<|ah 24 [.own 0,.nw] [aI ((M.base+(n0:Int))-M.base)] λ _=>aC 6 (congrArg (λ v_=>(vI v_:Value)) (show M.base+(n0:Int)-M.base=(n0:Int) by omega))<|ae 16 (aab 2) λ _=>RN.slA (A:=A) (n:=M.lg.length) (cap:=cap) (l:=n0) (sz:=2) rfl (by omega) aeX<|ae 17 (aab 2) λ _=>aam ((((M.lg.length-n0):Nat):Int)<(n0:Int)) 38 (λ h1=>?_) λ h1=>?_
 ·refine ae 7 [.own 0] λ _=>aap<|RN.appU (c':=(cap-n0)) (tx:=160) lR ([]:List (Int × Int)) (M.lg.drop n0) 0 rfl (aau _ _) (by rw[List.length_drop];simp;omega) (RowL.src lR (by decide) (hs.drop (ak 1) rfl Ul)) ?_;rintro A2 c3 T4 ⟨Ty,Y2⟩;refine ae 10 [.own 0] λ _=>aaq [] [0,1] [0] (v:=vI 0) (H':=(ap [(mb,.lit [vS cb 0 M.cs.length M.cs.length,.slice A2 (0+((M.lg.drop n0)).length) c3,vI (M.base+(n0:Int))] 162 (0,0)),(cb,.rows 1 M.cs.length (aB M.cs) 3 (0,0))] [T4])) ?_;refine⟨rfl,?_⟩;rw[List.nil_append] at Ty;have h_:=MemH.mk (mb:=mb) (M:=jx M n0) (k:=k) cb A2 c3 T4 Ty hc (by show (M.lg.drop n0).length+k <= _;rw[List.length_drop];omega);have Ze:(jx M n0).lg.length=0+(M.lg.drop n0).length:=(Nat.zero_add _).symm;rw[Ze] at h_;exact h_
 ·refine ae 8 [] λ _=>aaq [] [0,1] [0] (v:=vI 0) (H':=(ap [(mb,.lit [vS cb 0 M.cs.length M.cs.length,.slice (slA A n0 2 cap) (M.lg.length-n0) (cap-n0),vI (M.base+(n0:Int))] 162 (0,0)),(cb,.rows 1 M.cs.length (aB M.cs) 3 (0,0))] [Hl])) ?_;refine⟨rfl,?_⟩;have h_:=MemH.mk (mb:=mb) (M:=jx M n0) (k:=k) cb (slA A n0 2 cap) (cap-n0) Hl (hs.dropI (by omega)) hc (by show (M.lg.drop n0).length+k <= _;rw[List.length_drop];omega);have Ze:(jx M n0).lg.length=M.lg.length-n0:=List.length_drop;rw[Ze] at h_;exact h_
theorem PK{mb n0 k k2:Nat}{M:MemS}{T:HL}(F:HL)(h:MemH mb M k T)(hb:0 <= M.base /\ M.base <= 1000000000)(Ul:n0 <= M.lg.length)(hk:k2 <= k){v:Int}(hv:v=M.base+(n0:Int)):Sp Tryz.prog 58 #[vP mb 0,vI v] (ap [] [T]) F (λ u H'=>∃x,H'=ap [] [x] /\ (u=vI 0 /\ MemH mb (jx M n0) k2 x)):=by
 subst hv;rw[aP];cases h with
 | mk cb A cap Hl hs hc hl=>exact(Np mb cb n0 k2 cap M A Hl F hs hc (by omega) hb Ul (by omega)).tl
theorem K5{b o wd l m:Nat}(h:m≠l):Cm (some ⟨b,o*wd,none⟩) l wd m=some ⟨b,(o+l)*wd,none⟩:=by
 unfold Cm slA;rw[if_neg h,Option.map_some,iX rfl];simp[vh,Nat.add_mul]
theorem Hb(a:Nat)(l:List Int):(sS a l).drop 1=sS (a+1) (l.drop 1):=by cases l <;> rfl
theorem xf{b:Int}{L:Nat}{ms:List Int}(hr:∀k∈ms,b <= k /\ k <= b+(L:Int)){i:Nat}(hi:i<ms.length+1):b <= (ms++[b+(L:Int)]).getD i 0 /\ (ms++[b+(L:Int)]).getD i 0 <= b+(L:Int):=by
 have hm:=gY (l:=ms++[b+(L:Int)]) (i:=i) (by simpa using hi) 0;rcases List.mem_append.1 hm with h|h
 ·exact hr _ h
 ·rw[List.mem_singleton] at h;omega
inductive RingH(rb mb w a:Nat)(ms:List Int):HL -> Prop
 | mk {A:Option Addr} {cap n:Nat} {Hl:HL} (hs:SlX mG 188 (sS a ms) A cap Hl) (hn:n=ms.length) (h0:ms=[] -> A=none /\ cap=0 /\ Hl=[]):RingH rb mb w a ms (ap [(rb,.lit [vP mb 0,vI (w:Int),.slice A n cap] 169 (0,0))] [Hl])
def fl(w:Nat)(M:MemS)(a:Nat)(ms:List Int)(t:Nat):MemS × Nat × List Int :=
 let mk:=M.base+(M.lg.length:Int)
 let a0:=if ms=[] then t else a
 if w<ms.length+1 then (jx M (((ms++[mk]).getD 1 0)-M.base).toNat,a0+1,(ms++[mk]).drop 1) else (M,a0,ms++[mk])
theorem rv{w:Nat}(M:MemS)(a t:Nat)(h:1 <= w):fl w M a [] t=(M,t,[M.base+(M.lg.length:Int)]):=by
 unfold fl;dsimp only;rw[if_neg (by simp;omega),if_pos rfl];rfl
theorem Dp{w a t:Nat}{ms:List Int}(M:MemS)(h:w<ms.length+1)(hn:ms≠[]):fl w M a ms t=(jx M (((ms++[M.base+(M.lg.length:Int)]).getD 1 0)-M.base).toNat,a+1,(ms++[M.base+(M.lg.length:Int)]).drop 1):=by
 unfold fl;dsimp only;rw[if_pos h,if_neg hn]
theorem K6{w a t:Nat}{ms:List Int}(M:MemS)(h:¬ w<ms.length+1)(hn:ms≠[]):fl w M a ms t=(M,a,ms++[M.base+(M.lg.length:Int)]):=by
 unfold fl;dsimp only;rw[if_neg h,if_neg hn]
theorem K7(rb mb w cap t k k2:Nat)(M:MemS)(T F:HL)(hM:MemH mb M k T)(hb:0 <= M.base /\ M.base <= 1000000000)(hw:1 <= w /\ w <= 13)(XD:k2 <= k)(ZE:t <= 1000000):Sp Tryz.prog 77 #[vP rb 0,vI (t:Int)] (ap [(rb,.lit [vP mb 0,vI (w:Int),.slice none 0 0] 169 (0,0))] [T]) F (λ u H'=>∃x:HL × HL,H'=ap [] [x.1,x.2] /\ (u=vI 0 /\ RingH rb mb w (fl w M 0 [] t).2.1 (fl w M 0 [] t).2.2 x.1 /\ MemH mb (fl w M 0 [] t).1 k2 x.2)):=by
 refine aav Tryz.func77 rfl mn (A:=[(rb,.lit [vP mb 0,vI (w:Int),.slice none 0 0] 169 (0,0))]) (Ts:=[T]) rfl λ w0=>?_;refine ae 12 [] λ _=>aam ((t:Int)<0) 7 (λ h1=>?_) λ h1=>?_
 ·(exfalso;omega)
 ·refine ae 25 [.own 0] λ _=>aal [13,16] []<|ag [] [0,1,5,6,2,7,3,8,4,9] (aab 2)<|aac [] 10 (λ X_=>(pw hM (aE 0) hb))<|ag [] [11] []<|aae 12 (aag [] [] λ n3=>?_);refine RD.nt<|aae 13 (RDO.appX [] NN ([]:List (Int × Int)) [((t:Int),(M.base+(M.lg.length:Int)))] 0 0 rfl (SlX.nil _ _) (by simp) ?_);rintro A4 c5 T6 ⟨hs7,hz8⟩;refine ag [] [14,15] []<|aae 16 (aag [] [.own 1] λ _=>?_);refine aad<|ae 3 [] λ _=>?_;have IT:SlX mG 188 (sS t (([]:List Int)++[(M.base+(M.lg.length:Int))])) A4 c5 T6:=by
   exact hs7
  clear hs7;refine ae 19 [.own 1,.own 1] λ _=>aam ((((0+1):Nat):Int)>(w:Int)) 47 (λ h9=>?_) λ h9=>?_
  ·(exfalso;omega)
  ·refine ae 8 [] λ _=>aaq [] [1] [0,1] (v:=vI 0) (H':=(ap [(rb,.lit [vP mb 0,vI (w:Int),.slice A4 (0+1) c5] 169 (0,0))] [T6,T])) ?_;rw[rv M 0 t hw.1];exact⟨(_,_),by simp[ap],rfl,.mk IT rfl (λ e_=>by cases e_),hM.weak XD⟩
theorem Hc(rb mb w cap t k k2:Nat)(M:MemS)(n a:Nat)(ms:List Int)(A:Option Addr)(Hl:HL)(T F:HL)(hs:SlX mG 188 (sS a ms) A cap Hl)(hn:n=ms.length)(Xa:1 <= n)(hn8:n <= 100000000)(ht:t=a+n)(hr:∀k∈ms,M.base <= k /\ k <= (M.base+(M.lg.length:Int)))(hM:MemH mb M k T)(hb:0 <= M.base /\ M.base <= 1000000000)(hw:1 <= w /\ w <= 13)(XD:k2 <= k)(ZE:t <= 1000000):Sp Tryz.prog 77 #[vP rb 0,vI (t:Int)] (ap [(rb,.lit [vP mb 0,vI (w:Int),.slice A n cap] 169 (0,0))] [Hl,T]) F (λ u H'=>∃x:HL × HL,H'=ap [] [x.1,x.2] /\ (u=vI 0 /\ RingH rb mb w (fl w M a ms t).2.1 (fl w M a ms t).2.2 x.1 /\ MemH mb (fl w M a ms t).1 k2 x.2)):=by
 have hw_:D3 a ms+1=(t:Int):=by unfold D3;rw[if_neg (by rintro rfl;simp at hn;omega)];omega
 refine aav Tryz.func77 rfl mn (A:=[(rb,.lit [vP mb 0,vI (w:Int),.slice A n cap] 169 (0,0))]) (Ts:=[Hl,T]) rfl λ w0=>?_;refine ae 12 [] λ _=>aam ((t:Int)<0) 7 (λ h1=>?_) λ h1=>?_
 ·(exfalso;omega)
 ·refine ae 13 [.own 0] λ _=>aam ((n:Int)>0) 14 (λ h2=>?_) λ h2=>?_
  ·refine ae 2 [] λ _=>aai (D4 (rb:=rb) (mb:=mb) (w:=w) hs (ak 0) hn hn8 (az 0))<|ah 5 [.nw] [aI ((D3 a ms)+1)] λ _=>aan ((t:Int)=(D3 a ms)+1) 20 (λ h3=>?_) λ h3=>?_
   ·refine ae 4 [] λ _=>aal [13,16] []<|ag [] [0,1,5,6,2,7,3,8,4,9] (aab 2)<|aac [] 10 (λ X_=>(pw hM (aE 1) hb))<|ag [] [11] []<|aae 12 (aag [] [] λ n5=>?_);refine aae 13 (RDO.appX [] NN (sS a ms) [((t:Int),(M.base+(M.lg.length:Int)))] 0 0 (hn.trans (lQ a ms).symm) hs (by rw[lQ];simp;omega) ?_);rintro A6 c7 T8 ⟨hs9,ara⟩;refine ag [] [14,15] []<|aae 16 (aag [] [.own 1] λ _=>?_);refine aad<|ae 3 [] λ _=>?_;have IT:SlX mG 188 (sS a (ms++[(M.base+(M.lg.length:Int))])) A6 c7 T8:=by
     rw[zl,<- hn,<- ht];exact hs9
    clear hs9;refine ae 19 [.own 1,.own 1] λ _=>aam ((((n+1):Nat):Int)>(w:Int)) 47 (λ Vd=>?_) λ Vd=>?_
    ·refine ae 2 [] λ _=>?_;have ab5:=IT;obtain⟨b1,o1,M1,f1,rfl,rfl,hf1,hM1,hc1,hd1,Xd⟩:=xF IT (by simp);rw[List.length_append,List.length_singleton,<- hn] at hc1;refine pS 0 (x:=(b1,.rows 2 M1 (aL mG f1) 188 (0,0))) ?_;have hm_:=xf hr (i:=1) (by omega);have amf:((ms++[(M.base+(M.lg.length:Int))]).getD 1 0-M.base).toNat <= M.lg.length:=by omega
     have ame:(ms++[(M.base+(M.lg.length:Int))]).getD 1 0=M.base+((((ms++[(M.base+(M.lg.length:Int))]).getD 1 0-M.base).toNat:Nat):Int):=by omega
     refine ae 8 [.own 2] λ _=>Cn (A:=some ⟨b1,o1*2,none⟩) (n:=(n+1)) (cap:=c7) (l:=1) (h:=n+1) (m:=n+1) (sz:=2) (li:=some 1) (hi:=some (((n+1):Nat):Int)) (mi:=some (((n+1):Nat):Int)) rfl rfl rfl (by omega) (by omega) hc1<|aC 55 (congrArg (λ v_=>(.slice v_ (n+1-1) (n+1-1):Value)) (K5 (b:=b1) (o:=o1) (wd:=2) (l:=1) (m:=n+1) (by omega)))<|ae 5 [.own 2] λ _=>aal [11] []<|av [] [0,4,1,5,2,6,3,7,8,9,10] [.own 2,.own 2,.ix 0,.row 0 ((o1+1)+0) 1] [(((o1+1)*2+0*2)+1)=((o1+1)+0)*2+1 /\ ((o1+1)+0)<M1,0=((0:Nat):Int) /\ 0<(n+1-1)]<|eK 68 (congrArg (λ v_=>(vI v_:Value)) (congrArg Prod.snd (Xd 1 (by simp;omega))))<|aae 11 (aaf [] [] [0] (PK (n0:=((ms++[(M.base+(M.lg.length:Int))]).getD 1 0-M.base).toNat) (k2:=k2) _ hM hb amf XD ame) ?_);rintro _ T12 ⟨rfl,aaU⟩;refine aad<|ae 6 [] λ _=>aaq [] [2,0] [0] (v:=vI 0) (H':=(ap [(rb,.lit [vP mb 0,vI (w:Int),vS b1 ((o1+1)*2) (n+1-1) (n+1-1)] 169 (0,0)),(b1,.rows 2 M1 (aL mG f1) 188 (0,0))] [T12])) ?_;rw[Dp M (by omega) (by rintro rfl;simp at hn;omega)];have hx_:=ab5.cut (k:=1) (h:=n+1) (m:=n+1) (by omega) (by rw[lQ];simp;omega) (by omega) hc1;rw[List.take_of_length_le (by rw[lQ];simp;omega),Hb] at hx_;have hb_:Cm (some ⟨b1,o1*2,none⟩) 1 2 (n+1)=some ⟨b1,(o1+1)*2,none⟩:=K5 (by omega);rw[show mG.w=2 from rfl,hb_] at hx_;exact⟨(_,_),by simp[ap],rfl,.mk (n:=n+1-1) hx_ (by simp;omega) (λ e_=>by have h_:=congrArg List.length e_;rw[List.length_drop,List.length_append,List.length_singleton,List.length_nil] at h_;omega),aaU⟩
    ·refine ae 8 [] λ _=>aaq [] [1] [0,1] (v:=vI 0) (H':=(ap [(rb,.lit [vP mb 0,vI (w:Int),.slice A6 (n+1) c7] 169 (0,0))] [T8,T])) ?_;rw[K6 M (by omega) (by rintro rfl;simp at hn;omega)];exact⟨(_,_),by simp[ap],rfl,.mk (n:=n+1) IT (by simp;omega) (λ e_=>by simp at e_),hM.weak XD⟩
   ·(exfalso;omega)
  ·(exfalso;omega)
theorem SlX.take{α:Type}{e:Enc α}{T:TypeId}{l:List α}{A:Option Addr}{cap:Nat}{Hl:HL}(h:SlX e T l A cap Hl)(k:Nat):SlX e T (l.take k) A cap Hl:=by
 rcases h with ⟨rfl,rfl,rfl,rfl⟩|⟨b,o,M,full,h1,h2,h3,h3',h4,h5⟩
 ·rw[List.take_nil];exact SlX.nil _ _
 ·refine .inr ⟨b,o,M,full,h1,h2,h3,h3',by rw[List.length_take];omega,?_⟩;rw[List.length_take]
  conv=>rhs;rw[<- h5]
  rw[List.take_take]
theorem PL{mb n0 k k2:Nat}{M:MemS}{T:HL}(F:HL)(h:MemH mb M k T)(hk:k2 <= k)(hb:0 <= M.base /\ M.base <= 1000000000)(Ul:n0 <= M.lg.length)(Up:∀e∈M.lg.drop n0,0 <= e.1 /\ e.1<(M.cs.length:Int)){v:Int}(hv:v=M.base+(n0:Int)):Sp Tryz.prog 82 #[vP mb 0,vI v] (ap [] [T]) F (λ u H'=>∃x,H'=ap [] [x] /\ (u=vI 0 /\ MemH mb (nh M n0) k2 x)):=by
 subst hv;exact K4 F h hk hb Ul Up
theorem Nq(rb mb w cap x k k2 n a b1 o1 M1:Nat)(f1:List (Int × Int))(ms:List Int)(M:MemS)(T F:HL)(hs:SlX mG 188 (sS a ms) (some ⟨b1,o1*2,none⟩) cap [(b1,.rows 2 M1 (aL mG f1) 188 (0,0))])(hn:n=ms.length)(Xa:1 <= n)(hn8:n <= 100000000)(hx:a <= x /\ x<a+n)(hx8:x <= 1000000)(hcap:n <= cap)(hM1:o1+cap <= M1)(hg:∀k,k<n -> f1.getD (o1+k) mG.dflt=(((a+k:Nat):Int),ms.getD k 0))(hr:M.base <= (ms.getD (x-a) 0) /\ (ms.getD (x-a) 0) <= (M.base+(M.lg.length:Int)))(Up:∀e∈M.lg.drop ((ms.getD (x-a) 0)-M.base).toNat,0 <= e.1 /\ e.1<(M.cs.length:Int))(hM:MemH mb M k T)(hb:0 <= M.base /\ M.base <= 1000000000)(XD:k2 <= k):Sp Tryz.prog 74 #[vP rb 0,vI (x:Int)] (ap [(rb,.lit [vP mb 0,vI (w:Int),vS b1 (o1*2) n cap] 169 (0,0)),(b1,.rows 2 M1 (aL mG f1) 188 (0,0))] [T]) F (λ u H'=>∃y:HL × HL,H'=ap [] [y.1,y.2] /\ (u=vI 0 /\ RingH rb mb w a (ms.take (x-a+1)) y.1 /\ MemH mb (nh M ((ms.getD (x-a) 0)-M.base).toNat) k2 y.2)):=by
 have Xc:(f1.getD (o1+(x-a)) mG.dflt).1=(x:Int):=by rw[hg _ (by omega)];show ((a+(x-a):Nat):Int)=x;omega
 have YA:∀k,k<x-a -> ¬ (f1.getD (o1+k) mG.dflt).1=(x:Int):=by intro k hk;rw[hg _ (by omega)];show ¬ ((a+k:Nat):Int)=x;omega
 have arR:(f1.getD (o1+(n-1)) mG.dflt).1=((a+(n-1):Nat):Int):=by rw[hg _ (by omega)]
 have arP:(f1.getD o1 mG.dflt).1=((a+0:Nat):Int):=by have h_:=hg 0 (by omega);rw[Nat.add_zero] at h_;rw[h_]
 refine aav Tryz.func74 rfl mn (A:=[(rb,.lit [vP mb 0,vI (w:Int),vS b1 (o1*2) n cap] 169 (0,0)),(b1,.rows 2 M1 (aL mG f1) 188 (0,0))]) (Ts:=[T]) rfl λ w0=>?_;refine ae 8 [] λ n1=>aal [] []<|ag [] [0,1,2,3,4,5,6] [.own 1]<|RD.em ((n:Int)=0) 13 (λ h2=>?_) λ h2=>?_
 ·(exfalso;omega)
 ·refine ag [] [7,8] [.own 0]<|aac [] 9 (λ X_=>(Ij rb mb b1 o1 M1 n cap w f1 _ (gn 1) (gn 2) Xa (by omega) hn8))<|ag [] [10,11] []<|aad<|ae 1 [] λ _=>aam ((x:Int)<(f1.getD o1 mG.dflt).1) 18 (λ h3=>?_) λ h3=>?_
  ·(exfalso;omega)
  ·refine ae 5 [] λ _=>aal [] []<|ag [] [0,1] [.own 0]<|aac [] 2 (λ X_=>(zn rb mb b1 o1 M1 n cap w f1 _ (gn 1) (gn 2) Xa (by omega) hn8))<|ag [] [3] []<|aad<|ae 1 [] λ _=>aam ((x:Int)>(f1.getD (o1+(n-1)) mG.dflt).1) 22 (λ h4=>?_) λ h4=>?_
   ·(exfalso;omega)
   ·refine ae 10 [.own 1] λ _=>aai (L4 b1 o1 M1 n cap (n1+0) (x-a) (x:Int) f1 _ (az 0) (az 2) (by omega) hn8 (by omega) Xc YA)<|ae 5 [] λ _=>aal [12] []<|av [] [0,4,8,1,5,2,6,3,7,9,10,11] [.own 1,.own 1,.ix (x-a),.row 2 (o1+(x-a)) 1] [((o1*2+(x-a)*2)+1)=(o1+(x-a))*2+1 /\ (o1+(x-a))<M1,((x-a:Nat):Int)=(((x-a):Nat):Int) /\ (x-a)<n]<|eK 40 (congrArg (λ v_=>(vI v_:Value)) (congrArg Prod.snd (hg (x-a) (by omega))))<|aae 12 (aaf [] [] [0] (PL (n0:=((ms.getD (x-a) 0)-M.base).toNat) (k2:=k2) _ hM XD hb (by omega) Up (show (ms.getD (x-a) 0)=M.base+((((ms.getD (x-a) 0)-M.base).toNat:Nat):Int) by omega)) ?_);rintro _ T5 ⟨rfl,UT⟩;refine ag [] [13] []<|aad<|ah 30 [.own 1,.nw,.sl 0 ((x-a)+1) false,.own 1] [0=0 /\ ((x-a:Nat):Int)+1=((((x-a)+1):Nat):Int) /\ 0 <= ((x-a)+1) /\ ((x-a)+1) <= cap /\ cap≠0,aI (((x-a:Nat):Int)+1)] λ _=>aaq [] [1,2] [0] (v:=vI 0) (H':=(ap [(rb,.lit [vP mb 0,vI (w:Int),vS b1 (o1*2+0*2) (((x-a)+1)-0) (cap-0)] 169 (0,0)),(b1,.rows 2 M1 (aL mG f1) 188 (0,0))] [T5])) ?_;have hx_:=hs.take (x-a+1);rw[zm] at hx_;exact⟨(_,_),by simp[ap],rfl,.mk (n:=x-a+1) hx_ (by rw[List.length_take];omega) (λ e_=>by have h_:=congrArg List.length e_;rw[List.length_take,List.length_nil] at h_;omega),UT⟩
theorem K8{rb mb w a t k k2:Nat}{ms:List Int}{M:MemS}{G T:HL}(F:HL)(hG:RingH rb mb w a ms G)(ht:ms≠[] -> t=a+ms.length)(hr:∀k∈ms,M.base <= k /\ k <= M.base+(M.lg.length:Int))(hM:MemH mb M k T)(hb:0 <= M.base /\ M.base <= 1000000000)(hw:1 <= w /\ w <= 13)(XD:k2 <= k)(ZE:t <= 1000000)(hl:ms.length <= 100000000):Sp Tryz.prog 77 #[vP rb 0,vI (t:Int)] (ap [] [G,T]) F (λ u H'=>∃x:HL × HL,H'=ap [] [x.1,x.2] /\ (u=vI 0 /\ RingH rb mb w (fl w M a ms t).2.1 (fl w M a ms t).2.2 x.1 /\ MemH mb (fl w M a ms t).1 k2 x.2)):=by
 cases hG with
 | @mk A cap n Hl hs hn h0 =>
  by_cases e:ms=[]
  ·obtain⟨rfl,rfl,rfl⟩:=h0 e;subst e;obtain rfl:n=0:=hn;have h:=K7 rb mb w 0 t k k2 M T F hM hb hw XD ZE;rw[rv M 0 t hw.1] at h;rw[rv M a t hw.1];simpa [ap] using h
  ·have hp:1 <= n:=by
    cases ms with
    | nil=>exact absurd rfl e
    | cons _ _=>rw[hn];simp
   have h:=Hc rb mb w cap t k k2 M n a ms A Hl T F hs hn hp (by omega) (by rw[hn];exact ht e) hr hM hb hw XD ZE;simpa [ap] using h
theorem Nr{rb mb w a x k k2:Nat}{ms:List Int}{M:MemS}{G T:HL}(F:HL)(hG:RingH rb mb w a ms G)(hx:a <= x /\ x<a+ms.length)(hx8:x <= 1000000)(hl:ms.length <= 100000000)(hr:M.base <= ms.getD (x-a) 0 /\ ms.getD (x-a) 0 <= M.base+(M.lg.length:Int))(Up:∀e∈M.lg.drop (ms.getD (x-a) 0-M.base).toNat,0 <= e.1 /\ e.1<(M.cs.length:Int))(hM:MemH mb M k T)(hb:0 <= M.base /\ M.base <= 1000000000)(XD:k2 <= k):Sp Tryz.prog 74 #[vP rb 0,vI (x:Int)] (ap [] [G,T]) F (λ u H'=>∃y:HL × HL,H'=ap [] [y.1,y.2] /\ (u=vI 0 /\ RingH rb mb w a (ms.take (x-a+1)) y.1 /\ MemH mb (nh M (ms.getD (x-a) 0-M.base).toNat) k2 y.2)):=by
 cases hG with
 | @mk A cap n Hl hs hn h0 =>
  have e:ms≠[]:=by rintro rfl;simp at hx;omega
  have hs2:=hs;obtain⟨b,o,M1,full,rfl,rfl,h3,h4,h5,h6,h7⟩:=xF hs e;have h:=Nq rb mb w cap x k k2 n a b o M1 full ms M T F hs2 hn (by omega) (by omega) (by omega) hx8 (by omega) h4 (λ k hk=>h7 k (by omega)) hr Up hM hb XD;simpa [ap] using h
theorem Br{α:Type}{d:α}{l m:List α}(h1:l.length=m.length)(h2:∀k,k<l.length -> l.getD k d=m.getD k d):l=m:=by
 apply List.ext_getElem h1;intro i h3 h4;have:=h2 i h3;rwa [List.getD_eq_getElem?_getD,List.getD_eq_getElem?_getD,List.getElem?_eq_getElem h3,List.getElem?_eq_getElem h4] at this
theorem E0{x y:Inp}(h1:x.dx=y.dx)(h2:x.dy=y.dy)(h3:x.act=y.act):x=y:=by cases x;cases y;simp_all
theorem Ns{ρ:Type}{w now:Nat}{S:PS ρ}(h:¬ (S.ms≠[] /\ S.a+S.ms.length=now+1)):((fc w S now).M,(fc w S now).a,(fc w S now).ms)=fl w S.M S.a S.ms now:=by
 unfold fc fl;rw[if_neg h];dsimp only;split <;> rfl
theorem yu{a now:Nat}{ms:List Int}:D3 a ms=(now:Int)↔(ms≠[] /\ a+ms.length=now+1):=by
 unfold D3;split
 ·next e=>subst e;simp
 ·next e=>
   constructor
   ·intro h;exact⟨e,by omega⟩
   ·rintro⟨_,h⟩;omega
theorem PInv.marks{ρ:Type}{g:Nat -> ρ -> Gm}{c0:List Int}{w m:Nat}{S:PS ρ}{V:List ρ}(h:PInv g c0 w S V m):∀k∈S.ms,S.M.base <= k /\ k <= S.M.base+(S.M.lg.length:Int):=by
 intro k hk;obtain⟨i,hi,rfl⟩:=List.mem_iff_getElem.1 hk;have h1:=h.rst i _ (List.getElem?_eq_getElem hi);exact⟨h1.lo,h1.hi⟩
def lI(x:Inp):Inp:=⟨x.dx,x.dy,0⟩
instance:DecidableEq Inp:=λ x y=>decidable_of_iff (x.dx=y.dx /\ x.dy=y.dy /\ x.act=y.act) ⟨λ h=>E0 h.1 h.2.1 h.2.2,λ h=>by rw[h];exact⟨rfl,rfl,rfl⟩⟩
theorem K9(A B:Option Addr)(n c m d:Nat)(xs ys:List Inp)(F:HL)(hl:RowL cS 40 F A n xs)(TM:RowL cS 40 F B m ys)(hb:n <= 1000000):Sp Tryz.prog 73 #[.slice A n c,.slice B m d] [] F (λ u H'=>u=.bool (decide (xs=ys)) /\ H'=[]):=by
 have ZV:=hl.len;have alx:=TM.len;refine aav Tryz.func73 rfl mn (A:=[]) (Ts:=[]) rfl λ w0=>?_;refine ae 15 [] λ _=>aan ((n:Int)=(m:Int)) 10 (λ h1=>?_) λ h1=>?_
 ·refine ae 12 [] λ _=>aao (σ:=Nat) (λ k_=>⟨[(0,.slice A n c),(1,.slice B m d),(12,vI (n:Int)),(13,vI (k_:Int))],[],[],k_ <= n /\ ∀j,j<k_ -> xs.getD j dI=ys.getD j dI,n-k_⟩) 0 [] [] (⟨Nat.zero_le _,λ j hj=>absurd hj (Nat.not_lt_zero _)⟩) ?_;rintro k_ ⟨X8,Ua⟩ Th;refine ae 6 [] λ _=>aam ((k_:Int)<(n:Int)) 14 (λ h4=>?_) λ h4=>?_
  ·refine ae 12 [] λ _=>aal [] []<|ag [] [0,1,4,5] [] ?_;obtain⟨aqD,U6,afV,atn,apU,aiD,adi,aoV,ahN⟩:=hl.at (k:=k_) (by omega);refine eK 16 (congrArg (λ v_=>(.slice v_ n c:Value)) aiD)<|RD.ro (λ _=>(mc adi mn)) ?_;obtain⟨aqC,U5,afU,atm,apT,aiC,ahh,aoU,ahM⟩:=TM.at (k:=k_) (by omega);refine eK 20 (congrArg (λ v_=>(.slice v_ m d:Value)) aiC)<|RD.ro (λ _=>(mc adi (mc ahh mn)))<|av [] [2,6,3,7] [.ix k_,.ix k_,.rorow 0 (U6+k_) 0,.rorow 0 (U6+k_) 1,.rorow 0 (U6+k_) 2,.rorow 1 (U5+k_) 0,.rorow 1 (U5+k_) 1,.rorow 1 (U5+k_) 2] [((U5*3+k_*3)+2)=(U5+k_)*3+2 /\ (U5+k_)<afU,((U5*3+k_*3)+1)=(U5+k_)*3+1 /\ (U5+k_)<afU,(U5*3+k_*3)=(U5+k_)*3+0 /\ (U5+k_)<afU,((U6*3+k_*3)+2)=(U6+k_)*3+2 /\ (U6+k_)<afV,((U6*3+k_*3)+1)=(U6+k_)*3+1 /\ (U6+k_)<afV,(U6*3+k_*3)=(U6+k_)*3+0 /\ (U6+k_)<afV,(k_:Int)=((k_:Nat):Int) /\ k_<m,(k_:Int)=((k_:Nat):Int) /\ k_<n]<|eK 19 (congrArg (λ v_=>(.agg #[vI v_.dx,vI v_.dy,vI v_.act]:Value)) ahN)<|eK 23 (congrArg (λ v_=>(.agg #[vI v_.dx,vI v_.dy,vI v_.act]:Value)) ahM)<|ag [] [8] [.sq]<|aad<|ae 1 [] λ _=>tp ((decide ((xs.getD k_ dI).dx=(ys.getD k_ dI).dx) && (decide ((xs.getD k_ dI).dy=(ys.getD k_ dI).dy) && (decide ((xs.getD k_ dI).act=(ys.getD k_ dI).act) && true)))) 24 (λ h5=>?_) λ h5=>?_
   ·refine ah 8 [.nw] [aI ((k_:Int)+1)] λ _=>?_;refine Th (k_+1) [] [] ?_
    try dsimp only
    have YN:=h5;simp only[Bool.and_eq_true,decide_eq_true_eq] at YN;refine⟨⟨by omega,λ j hj=>?_⟩,by omega⟩
    by_cases ej:j=k_
    ·rw[ej];exact E0 YN.1 YN.2.1 YN.2.2.1
    ·exact Ua j (by omega)
   ·refine ae 6 [] λ _=>aaq [] [] [] (v:=.bool false) (H':=[]) ?_;exact⟨by rw[decide_eq_false (λ e_=>h5 (by rw[e_];simp))],rfl⟩
  ·refine ae 11 [] λ _=>aaq [] [] [] (v:=.bool true) (H':=[]) ?_;obtain rfl:k_=n:=by omega
   exact⟨by rw[decide_eq_true (Br (by omega) (λ k hk=>Ua k (by omega)))],rfl⟩
 ·refine ae 6 [] λ _=>aaq [] [] [] (v:=.bool false) (H':=[]) ?_;exact⟨by rw[decide_eq_false (λ e_=>h1 (by rw[<- ZV,e_,alx]))],rfl⟩
theorem Lb(x:Inp)(F:HL):Sp Tryz.prog 75 #[.agg #[vI x.dx,vI x.dy,vI x.act]] [] F (λ u H'=>u=.agg #[vI (lI x).dx,vI (lI x).dy,vI (lI x).act] /\ H'=[]):=by
 refine aav Tryz.func75 rfl mn (A:=[]) (Ts:=[]) rfl λ w0=>?_;refine ae 18 [.own 1,.own 1,.own 1,.own 1,.own 0,.own 0,.own 0] λ n1=>?_;exact aaq (aab 3) [] [] ⟨rfl,rfl⟩
theorem Lc{n:Int}(h:fH n):0 <= tN n /\ tN n<1000:=aA h 1000 (by decide)
theorem yv{n m:Int}(h0:0 <= n)(h1:n<m):ai n m=n:=by
 unfold ai;rw[if_neg (by omega)];exact Int.tmod_eq_of_lt h0 h1
theorem Dq{n:Int}(h:fH n):dm (tN n)=dm n:=by
 have hb:=Lc h;have e:tN (tN n)=tN n:=yv hb.1 hb.2;unfold dm qS;rw[e]
theorem He:∀k:Fin 1000,mZ ⟨(dm ((k.1:Nat):Int)).1,(dm ((k.1:Nat):Int)).2,none,0⟩:=by decide +kernel
theorem Ld{n:Int}(h:fH n)(A:Option Addr)(c:Nat):mZ ⟨(dm n).1,(dm n).2,A,c⟩:=by
 have hb:=Lc h;have:=He ⟨(tN n).toNat,by omega⟩;simp only at this;rw[Int.toNat_of_nonneg hb.1,Dq h] at this;exact this
theorem PM(i:Nat):0 <= ([1024,1024,512,2048,0]:List Int).getD i 0 /\ ([1024,1024,512,2048,0]:List Int).getD i 0 <= 4096:=by
 rcases i with _|_|_|_|_|i
 all_goals first|decide|simp
section
variable {xs:List Int} {F:HL} {A:Option Addr} {n:Nat} {S:Setup} {T:HL}
theorem Nt(hl:ArgL F A n xs)(k:Nat)(B:Option Addr)(c:Nat):gV (wz xs k B c) ⟨-12000,-9000,12000,9000⟩:=by
 have h1:=jD hl (4+2*k);have h2:=jD hl (5+2*k);have h3:=PM ((bM xs k / 5000) % 5).toNat
 simp only[gV,wz,wB,Ad,and_true];rw[show kv xs (4+2*k)=bN xs k from rfl] at h1;rw[show kv xs (5+2*k)=bM xs k from rfl] at h2;refine⟨h3,⟨⟨?_,?_⟩,?_,?_⟩,⟨?_,?_⟩,⟨?_,?_⟩,⟨?_,?_⟩,?_,?_⟩ <;> omega
theorem Lf(i:Nat):(ls i:Int) <= 16 /\ ∀k,k<ls i -> t1 3 ((gD i).getD k pf.dflt):=by
 rcases i with _|_|i
 ·exact⟨by decide,λ k hk=>absurd hk (Nat.not_lt_zero _)⟩
 ·exact⟨by decide,by decide⟩
 ·exact⟨by show ((2:Nat):Int) <= 16;decide,by show ∀k,k<2 -> t1 3 (([⟨0,2⟩,⟨1,2⟩]:List Dr).getD k pf.dflt);decide⟩
theorem Hf(hl:ArgL F A n xs)(h:SetG xs S T):lU S j8 (gD (kv xs 3 % 3).toNat)=0:=by
 have h1:=sZ hl;have h2:=xU hl;have hn:=h.nb;have k0:=jD hl 0;have k1:=jD hl 1;have k2:=jD hl 2;obtain⟨e1,e2,e3,e4,e5,e6,e7,e8⟩:=h.nums;obtain⟨⟨m1,m2⟩,-⟩:=h.maps;have hd:=Lf (kv xs 3 % 3).toNat
 unfold lU;rw[if_pos,if_pos,if_pos]
 ·intro k hk;obtain⟨B,c,hb⟩:=h.bod k hk;rw[hb,e1];exact Nt hl k B c
 ·refine⟨?_,?_,⟨?_,?_⟩,?_,?_⟩
  ·have hpl:=h.pl;simp only[lw,wB,Ad,and_true,e2,e3,e4,e5,e6,e7,e8,hpl];refine⟨⟨?_,?_⟩,⟨?_,?_⟩,⟨?_,?_⟩,⟨⟨?_,?_⟩,?_,?_⟩,⟨?_,?_⟩,⟨⟨?_,?_⟩,?_,?_⟩,⟨?_,?_⟩,?_,?_⟩ <;> omega
  ·rw[e1];decide
  ·rw[m1];decide
  ·rw[m2];exact hd.1
  ·rw[m1];decide
  ·rw[m1,m2];exact hd.2
 ·intro k hk;obtain⟨B,c,hb⟩:=h.bod k hk;rw[hb];have:=jD hl (4+2*k);exact Ld ⟨by show _ <= kv xs (4+2*k);omega,by show kv xs (4+2*k) <= _;omega⟩ B c
end
theorem Sp.den{P:Program}{f:FuncId}{args:Array Value}{H F F':HL}{R:Value -> HL -> Prop}(h:Sp P f args H F R)(e:fo F=fo F'):Sp P f args H F' R:=by
 have e2:∀X:HL,fo (X++F)=fo (X++F'):=λ X=>by simp only[fo,List.map_append] at e ⊢;rw[e]
 intro w hR;refine(h w (hR.den (e2 H).symm)).mono ?_;rintro e' w' ⟨v,H',h1,h2,h3,h4⟩;exact⟨v,H',h1,h2,h3.den (e2 H'),h4⟩
def ArgD(F:HL)(A:Option Addr)(n:Nat)(xs:List Int):Prop:=∃F',fo F'=fo F /\ ArgL F' A n xs
theorem ArgL.d{F F':HL}{A:Option Addr}{n:Nat}{xs:List Int}(h:ArgL F A n xs)(e:fo F=fo F'):ArgD F' A n xs:=⟨F,e,h⟩
theorem ArgD.up{F X:HL}{A:Option Addr}{n:Nat}{xs:List Int}(h:ArgD F A n xs):ArgD (X++F) A n xs:=by
 obtain⟨F',e,h⟩:=h;exact⟨X++F',by simp only[fo,List.map_append] at e ⊢;rw[e],h.up⟩
theorem ArgD.ex{F:HL}{A:Option Addr}{n:Nat}{xs:List Int}(h:ArgD F A n xs):∃F',ArgL F' A n xs:=by
 obtain⟨F',e,h⟩:=h;exact⟨F',h⟩
theorem ArgD.use{F:HL}{A:Option Addr}{n:Nat}{xs:List Int}(h:ArgD F A n xs){P:Program}{f:FuncId}{args:Array Value}{H:HL}{R:Value -> HL -> Prop}(k:∀F',ArgL F' A n xs -> Sp P f args H F' R):Sp P f args H F R:=by
 obtain⟨F',e,h⟩:=h;exact(k F' h).den e
noncomputable section
end
structure GF(xs:List Int)(S:Setup):Prop where
 pl:1 <= S.players /\ S.players <= 3
 nb:1 <= S.nb /\ S.nb <= 5
 rn:S.rn=3
 dn:S.dn <= 2
 sz:48 <= sizeOf S /\ sizeOf S <= 100
 val:lU S j8 (gD (kv xs 3 % 3).toNat)=0
theorem uL{F:HL}{A:Option Addr}{n:Nat}{xs:List Int}(hl:ArgD F A n xs){S:Setup}{T:HL}(h:SetG xs S T):GF xs S:=by
 obtain⟨F',hl⟩:=hl.ex;have h1:=sZ hl;have h2:=xU hl;have hn:=h.nb;have hp:=h.pl;obtain⟨⟨m1,m2⟩,-⟩:=h.maps;have hd:ls (kv xs 3 % 3).toNat <= 2:=by
  generalize (kv xs 3 % 3).toNat=i;rcases i with _|_|i
  ·exact Nat.zero_le _
  ·exact Nat.le_of_ble_eq_true rfl
  ·exact Nat.le_refl 2
 exact⟨by omega,by omega,m1,by omega,by unfold sizeOf;omega,Hf hl h⟩
end Go.Proofs.YtdppjkjbghbnjaaGreatDoor
