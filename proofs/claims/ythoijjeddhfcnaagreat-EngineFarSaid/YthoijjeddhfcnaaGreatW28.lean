import Derived.Test.YthoijjeddhfcnaaGreatW02
import Derived.RangeFuncLeaves
import Derived.RecoverIn
import Derived.OrdersIn
set_option maxHeartbeats 4000000
set_option maxRecDepth 100000
set_option linter.unusedSimpArgs false
set_option linter.unusedVariables false
namespace Go.Proofs.YthoijjeddhfcnaaGreat
open Go.RowKit
noncomputable section
inductive Tr (α:Type) where
  | lf
  | nd (v:α) (l r:Tr α)
noncomputable def Tr.getP {α:Type} (d:α) (p:List Bool):Tr α -> α :=
  List.rec (motive:=λ _=>Tr α -> α) (λ t=>Tr.rec (motive:=λ _=>α) d (λ v _ _ _ _=>v) t) (λ b _ ih t=>Tr.rec (motive:=λ _=>α) d (λ _ l r _ _=>Bool.rec (motive:=λ _=>α) (ih l) (ih r) b) t) p
noncomputable def Tr.setP {α:Type} (d x:α) (p:List Bool):Tr α -> Tr α :=
  List.rec (motive:=λ _=>Tr α -> Tr α) (λ t=>Tr.rec (motive:=λ _=>Tr α) (.nd x .lf .lf) (λ _ l r _ _=>.nd x l r) t)
    (λ b _ ih t=>Tr.rec (motive:=λ _=>Tr α) (Bool.rec (motive:=λ _=>Tr α) (.nd d (ih .lf) .lf) (.nd d .lf (ih .lf)) b) (λ v l r _ _=>Bool.rec (motive:=λ _=>Tr α) (.nd v (ih l) r) (.nd v l (ih r)) b) t) p
noncomputable def pthF (k:Nat):Nat -> List Bool :=
  Nat.rec (motive:=λ _=>Nat -> List Bool) (λ _=>[]) (λ _ ih i=>Nat.rec (motive:=λ _=>List Bool) [] (λ i _=>Nat.beq (i % 2) 1 :: ih (i / 2)) i) k
noncomputable def pth (i:Nat):List Bool:=pthF i i
noncomputable def Tr.get {α:Type} (d:α) (t:Tr α) (i:Nat):α:=Tr.getP d (pth i) t
noncomputable def Tr.set {α:Type} (d x:α) (t:Tr α) (i:Nat):Tr α:=Tr.setP d x (pth i) t
def Tr.ofL {α:Type} (d:α):List α -> Nat -> Tr α -> Tr α
  | [],_,t=>t
  | x :: l,i,t=>match Tr.set d x t i with
    | .lf=>Tr.ofL d l (i+1) .lf
    | .nd a b c=>Tr.ofL d l (i+1) (.nd a b c)
def Tr.toL {α:Type} (d:α) (t:Tr α) (i:Nat):Nat -> List α
  | 0=>[]
  | n+1=>t.get d i :: Tr.toL d t (i+1) n
mutual
def pl:Value -> Bool
  | .pointer (some _)=>false
  | .slice (some _) _ _=>false
  | .map (some _)=>false
  | .chan _=>false
  | .func fn first captured=>match fn with
    | .func _=>match plA first with
      | true=>plA captured
      | false=>false
    | _=>false
  | .iface _ v=>pl v
  | .agg cs=>plA cs
  | .tuple cs=>plA cs
  | _=>true
def plA:Array Value -> Bool
  | ⟨l⟩=>plL l
def plL:List Value -> Bool
  | []=>true
  | v :: l=>match pl v with
    | true=>plL l
    | false=>false
end
inductive AB where
  | cells (n:Nat) (t:Tr Value) (ty:TypeId) (w:Nat) (ro:Bool)
  | map (es:List (Value × Value × Nat)) (clock:Nat)
  | loop (st:LoopState) (pend:Option Code) (T:Tr Value) (N:Nat) (ps:Array Tmp) (assign body:Code) (defers:Nat)
  | dfr (shut:Bool)
abbrev AH:=Tr (Option AB)
structure St where
  T:Tr Value
  D:List Deferred
  H:AH
  n:Nat
abbrev hget (H:AH) (h:Nat):Option AB:=Tr.get none H h
abbrev hset (H:AH) (h:Nat) (b:Option AB):AH:=Tr.set none b H h
abbrev tget (T:Tr Value) (t:Nat):Value:=Tr.get undef T t
abbrev tset (T:Tr Value) (t:Nat) (v:Value):Tr Value:=Tr.set undef v T t
def unk:Nat:=9223372036854775808
def ael (T:Tr Value):Operand -> Value
  | .tmp t=>tget T t
  | .const v=>v
  | .global g=>.pointer (some ⟨g,0,none⟩)
  | .func f=>.func (.func f) #[] #[]
def aok (G:Nat):Operand -> Bool
  | .tmp _=>true
  | .const v=>pl v
  | .global g=>Nat.blt g G
  | .func _=>true
def opsI:Op -> Option (List Operand)
  | .defer c=>match c.callee with
    | .value f=>some (f :: c.args.toList)
    | _=>none
  | o=>opsOf o
def aoks (G:Nat):List Operand -> Bool
  | []=>true
  | x :: l=>match aok G x with
    | true=>aoks G l
    | false=>false
def plains (T:Tr Value):List Operand -> Bool
  | []=>true
  | x :: l=>match pl (ael T x) with
    | true=>plains T l
    | false=>false
def prun (P:Program) {α:Type}:Sem α -> Option α
  | .pure a=>some a
  | .program k=>prun P (k P)
  | .mark _ k=>prun P k
  | _=>none
def cmpI (op:BinOp) (a b:Int):Option Bool:=match op with
  | .lss=>some (decide (a < b))
  | .leq=>some (decide (a <= b))
  | .gtr=>some (decide (a > b))
  | .geq=>some (decide (a >= b))
  | .eql=>some (a == b)
  | .neq=>some (a != b)
  | _=>none
def nilQ:Value -> Value -> Option Bool
  | .pointer none,.pointer b=>some b.isNone
  | .pointer (some _),.pointer none=>some false
  | .slice none _ _,.slice b _ _=>some b.isNone
  | .slice (some _) _ _,.slice none _ _=>some false
  | .map none,.map b=>some b.isNone
  | .map (some _),.map none=>some false
  | .nilFunc,.nilFunc=>some true
  | .nilFunc,.func _ _ _=>some false
  | .func _ _ _,.nilFunc=>some false
  | .nilIface,.iface _ _=>some false
  | .iface _ _,.nilIface=>some false
  | _,_=>none
def nilT (P:Program) (t:TypeId) (u:Value):Bool:=match P.underlying t with
  | some (.pointer _)=>match u with | .pointer _=>true | _=>false
  | some (.slice _)=>match u with | .slice _ _ _=>true | _=>false
  | some (.map _ _)=>match u with | .map _=>true | _=>false
  | some (.func _ _ _)=>match u with | .nilFunc=>true | .func _ _ _=>true | _=>false
  | some (.interface _)=>match u with | .nilIface=>true | .iface _ _=>true | _=>false
  | _=>false
def oneC (P:Program) (t:TypeId):Bool:=match P.underlying t with
  | some (.struct _)=>false
  | some (.array _ _)=>false
  | some _=>true
  | none=>false
def aggC (P:Program) (t:TypeId):Option Nat:=match P.underlying t with
  | some (.struct _)=>(P.info? t).map (·.size)
  | some (.array _ _)=>(P.info? t).map (·.size)
  | _=>none
def sizeT (P:Program) (t:TypeId):Option Nat:=(P.info? t).map (·.size)
def fldO (P:Program) (t:TypeId) (j:Nat):Option (Nat × TypeId):=match P.underlying t with
  | some (.struct fs)=>match fs[j]? with
    | some f=>match P.info? f.type with
      | some inf=>match inf.size with
        | 0=>none
        | _+1=>some (f.offset,f.type)
      | none=>none
    | none=>none
  | _=>none
def listGet:List Value -> Nat -> Option Value
  | [],_=>none
  | v :: l,i=>match i with
    | 0=>some v
    | i+1=>listGet l i
def dropL:List Value -> Nat -> List Value
  | [],_=>[]
  | v :: l,i=>match i with
    | 0=>v :: l
    | i+1=>dropL l i
def takeL:List Value -> Nat -> List Value
  | [],_=>[]
  | v :: l,i=>match i with
    | 0=>[]
    | i+1=>v :: takeL l i
def putL0:List Value -> List Value -> Option (List Value)
  | [],l=>some l
  | _ :: _,[]=>none
  | v :: vs,_ :: l=>match putL0 vs l with
    | some l=>some (v :: l)
    | none=>none
def putLs (vs:List Value):List Value -> Nat -> Option (List Value)
  | [],i=>match i with
    | 0=>putL0 vs []
    | _+1=>none
  | x :: l,i=>match i with
    | 0=>putL0 vs (x :: l)
    | i+1=>match putLs vs l i with
      | some l=>some (x :: l)
      | none=>none
def cellsL:Value -> List Value
  | .agg cs=>cs.toList
  | v=>[v]
def lenL:List Value -> Nat
  | []=>0
  | _ :: l=>Nat.succ (lenL l)
def partA (P:Program) (t:TypeId) (cs:List Value) (off:Nat):Option Value:=match oneC P t with
  | true=>listGet cs off
  | false=>match aggC P t with
    | some k=>some (.agg ⟨takeL (dropL cs off) k⟩)
    | none=>none
def fillA (place:Nat -> Option (Nat × Nat)):List (Nat × Value) -> List Value -> Option (List Value)
  | [],l=>some l
  | (i,v) :: ps,l=>match place i with
    | some (off,k+1)=>match Nat.beq (lenL (cellsL v)) (k+1) with
      | false=>none
      | true=>match putLs (cellsL v) l off with
        | some l=>fillA place ps l
        | none=>none
    | _=>none
def partsA (T:Tr Value):List (Nat × Operand) -> List (Nat × Value)
  | []=>[]
  | (i,x) :: l=>(i,ael T x) :: partsA T l
def zeroT (P:Program) (t:TypeId):Option (List Value):=match P.info? t with
  | some i=>match i.zero with
    | some z=>match pl z with
      | true=>some (cellsL z)
      | false=>none
    | none=>none
  | none=>none
def fldPlaces (P:Program):List Field -> Option (List (Nat × Nat))
  | []=>some []
  | f :: fs=>match sizeT P f.type,fldPlaces P fs with
    | some k,some l=>some ((f.offset,k) :: l)
    | _,_=>none
def nthP:List (Nat × Nat) -> Nat -> Option (Nat × Nat)
  | [],_=>none
  | v :: l,i=>match i with
    | 0=>some v
    | i+1=>nthP l i
def buildA (P:Program) (t:TypeId) (parts:List (Nat × Value)):Option Value:=match zeroT P t with
  | some z=>match P.underlying t with
    | some (.struct fs)=>match fldPlaces P fs.toList with
      | some pls=>match fillA (nthP pls) parts z with
        | some l=>some (.agg ⟨l⟩)
        | none=>none
      | none=>none
    | some (.array _ el)=>match sizeT P el with
      | some k=>match fillA (λ i=>some (i * k,k)) parts z with
        | some l=>some (.agg ⟨l⟩)
        | none=>none
      | none=>none
    | _=>none
  | none=>none
def repL (z:List Value):Nat -> List Value
  | 0=>[]
  | n+1=>z++repL z n
def mapE (T:Tr Value):List Operand -> List Value
  | []=>[]
  | x :: l=>ael T x :: mapE T l
def asN:Value -> Option Nat
  | .int _ (.ofNat n)=>some n
  | _=>none
def optN (T:Tr Value) (d:Nat):Option Operand -> Option Nat
  | none=>some d
  | some x=>asN (ael T x)
def addA (a:Addr) (k:Nat):Addr:=match k with
  | 0=>a
  | k+1=>⟨a.block,a.off+(k+1),none⟩
def lenA (P:Program) (t:TypeId) (v:Value):Option Nat:=match P.underlying t,v with
  | some (.slice _),.slice _ n _=>some n
  | some .string,.string s=>some s.size
  | _,_=>none
def lenQ (P:Program):Call -> Option (Operand × TypeId)
  | ⟨.builtin .len,⟨[x]⟩,⟨[t]⟩⟩=>match P.underlying t with
    | some (.slice _)=>some (x,t)
    | some .string=>some (x,t)
    | _=>none
  | _=>none
def numQ:Call -> Bool
  | ⟨.builtin .min,_,_⟩=>true
  | ⟨.builtin .max,_,_⟩=>true
  | _=>false
inductive Cl where
  | pu | lo | nw | ef
def clsC (P:Program) (c:Call):Cl:=match lenQ P c with
  | some _=>.pu
  | none=>match numQ c with
    | true=>.pu
    | false=>.ef
def cls (P:Program):Op -> Cl
  | .alloc _ | .box _ _ | .buildSlice _ _ _ | .makeSlice _ _ _ | .makeMap _ _=>.nw
  | .load _ _ | .lookup _ _ _ _ | .slice _ _ _ _ _=>.lo
  | .store _ _ _ | .mapUpdate _ _ _ _ | .insert _ _ _ _ | .defer _=>.ef
  | .call c=>clsC P c
  | _=>.pu
def plainV (P:Program) (T:Tr Value) (o:Oper):Option Value:=match opsOf o.op with
  | some l=>match plains T l with
    | true=>match prun P (execOp (ael T) o) with
      | some (.value v)=>match pl v with
        | true=>some v
        | false=>none
      | _=>none
    | false=>none
  | none=>none
def pureV (P:Program) (o:Oper) (T:Tr Value):Option Value:=match o.op with
  | .move x=>some (ael T x)
  | .assign x=>some (ael T x)
  | .pick c a b=>match ael T c with
    | .bool true=>some (ael T a)
    | .bool false=>some (ael T b)
    | _=>none
  | .build t parts=>buildA P t (partsA T parts.toList)
  | .nilCheck x=>match ael T x with
    | .pointer (some a)=>some (.pointer (some a))
    | .func (.func f) first captured=>some (.func (.func f) first captured)
    | .iface t v=>some (.iface t v)
    | _=>none
  | .binOp op t x y _=>match ael T x,ael T y with
    | .int k a,.int k' b=>match cmpI op a b with
      | some r=>match decide (k=k') with
        | true=>some (.bool r)
        | false=>none
      | none=>plainV P T o
    | u,v=>match nilQ u v with
      | some r=>match nilT P t u,op with
        | true,.eql=>some (.bool r)
        | true,.neq=>some (.bool (!r))
        | _,_=>none
      | none=>plainV P T o
  | .makeInterface t x=>match P.underlying t with
    | some (.interface _)=>none
    | some _=>some (.iface t (ael T x))
    | none=>none
  | .makeFunc fn first captured=>match fn with
    | .func f=>some (.func (.func f) ⟨mapE T first.toList⟩ ⟨mapE T captured.toList⟩)
    | _=>none
  | .fieldAddr t x j=>match ael T x,fldO P t j with
    | .pointer (some a),some (k,_)=>some (.pointer (some (addA a k)))
    | _,_=>none
  | .field t x j=>match ael T x,fldO P t j with
    | .agg cs,some (k,ft)=>partA P ft cs.toList k
    | _,_=>none
  | .indexAddr t x i=>match P.underlying t,ael T x,asN (ael T i) with
    | some (.slice el),.slice (some a) n _,some i=>match Nat.blt i n,sizeT P el with
      | true,some k=>some (.pointer (some (addA a (i * k))))
      | _,_=>none
    | some (.array n el),.pointer (some a),some i=>match Nat.blt i n,sizeT P el with
      | true,some k=>some (.pointer (some (addA a (i * k))))
      | _,_=>none
    | _,_,_=>none
  | .index t x i=>match P.underlying t,ael T x,asN (ael T i) with
    | some (.array n el),.agg cs,some i=>match Nat.blt i n,sizeT P el with
      | true,some k=>partA P el cs.toList (i * k)
      | _,_=>none
    | _,_,_=>plainV P T o
  | .extract x i=>match ael T x with
    | .tuple cs=>listGet cs.toList i
    | _=>none
  | .call c=>match lenQ P c with
    | some (x,t)=>match lenA P t (ael T x) with
      | some n=>some (.int .i64 (.ofNat n))
      | none=>none
    | none=>plainV P T o
  | _=>plainV P T o
def readN (t:Tr Value) (i:Nat):Nat -> List Value
  | 0=>[]
  | k+1=>tget t i :: readN t (i+1) k
def loadA (P:Program) (t:TypeId) (H:AH) (a:Addr):Option Value:=match a.spot,hget H a.block with
  | none,some (.cells n tr _ _ _)=>match oneC P t with
    | true=>match Nat.blt a.off n with
      | true=>some (tget tr a.off)
      | false=>none
    | false=>match aggC P t with
      | some k=>match Nat.ble (a.off+k) n with
        | true=>some (.agg ⟨readN tr a.off k⟩)
        | false=>none
      | none=>none
  | _,_=>none
def eqKey:Value -> Value -> Option Bool
  | .int k a,.int k' b=>match decide (k=k') with
    | true=>some (a == b)
    | false=>none
  | .string a,.string b=>some (a == b)
  | .bool a,.bool b=>some (a == b)
  | _,_=>none
def keyT (P:Program) (t:TypeId) (k:Value):Bool:=match P.underlying t,k with
  | some (.int _),.int _ _=>true
  | some .string,.string _=>true
  | some .bool,.bool _=>true
  | _,_=>false
def findA (k:Value):List (Value × Value × Nat) -> Option (Option Value)
  | []=>some none
  | (k',v,_) :: l=>match eqKey k k' with
    | some true=>some (some v)
    | some false=>findA k l
    | none=>none
def zeroV (P:Program) (t:TypeId):Option Value:=match P.info? t with
  | some i=>match i.zero with
    | some z=>match pl z with
      | true=>some z
      | false=>none
    | none=>none
  | none=>none
def okTup (ok:Bool) (v:Value) (b:Bool):Value:=match ok with
  | true=>.tuple ⟨[v,.bool b]⟩
  | false=>v
def lookA (P:Program) (t:TypeId) (H:AH) (m k:Value) (ok:Bool):Option Value:=match P.underlying t with
  | some (.map kt et)=>match keyT P kt k with
    | true=>match m with
      | .map none=>match zeroV P et with
        | some z=>some (okTup ok z false)
        | none=>none
      | .map (some r)=>match hget H r with
        | some (.map es _)=>match findA k es with
          | some (some v)=>some (okTup ok v true)
          | some none=>match zeroV P et with
            | some z=>some (okTup ok z false)
            | none=>none
          | none=>none
        | _=>none
      | _=>none
    | false=>none
  | _=>none
def cutAt (a:Addr) (m l k:Nat):Addr:=match Nat.beq m l with
  | true=>a
  | false=>addA a (l * k)
def sliceX (k:Nat) (base:Option Addr) (l h m c:Nat):Option Value:=match Nat.ble l h,Nat.ble h m,Nat.ble m c with
  | true,true,true=>match base with
    | none=>some (.slice none (h - l) (m - l))
    | some a=>match a.spot with
      | none=>some (.slice (some (cutAt a m l k)) (h - l) (m - l))
      | some _=>none
  | _,_,_=>none
def sliceU (H:AH) (k:Nat) (a:Addr) (l h c:Nat) (m:Option Nat):Option Value:=match a.spot,hget H a.block with
  | none,some (.cells nn _ _ w _)=>match Nat.beq w k,Nat.blt 0 w,Nat.ble l h,Nat.ble ((c - unk+h) * w) nn with
    | true,true,true,true=>match m with
      | none=>match Nat.blt l h with
        | true=>some (.slice (some (addA a (l * k))) (h - l) (c+l))
        | false=>match l with
          | 0=>some (.slice (some a) 0 c)
          | _+1=>none
      | some m=>match Nat.ble h m,Nat.ble ((c - unk+m) * w) nn,Nat.blt m unk with
        | true,true,true=>some (.slice (some (cutAt a m l k)) (h - l) (m - l))
        | _,_,_=>none
    | _,_,_,_=>none
  | _,_=>none
def mxOk (hi mx:Option Operand):Bool:=match mx,hi with
  | some _,none=>false
  | _,_=>true
def optM (T:Tr Value):Option Operand -> Option (Option Nat)
  | none=>some none
  | some x=>match asN (ael T x) with
    | some n=>some (some n)
    | none=>none
def sliceA (P:Program) (t:TypeId) (H:AH) (T:Tr Value) (x:Value) (lo hi mx:Option Operand):Option Value:=match mxOk hi mx with
  | false=>none
  | true=>match P.underlying t with
    | some (.slice el)=>match x with
      | .slice base n c=>match sizeT P el,optN T 0 lo,optN T n hi with
        | some k,some l,some h=>match Nat.blt c unk with
          | true=>match optN T c mx with
            | some m=>sliceX k base l h m c
            | none=>none
          | false=>match base,optM T mx with
            | some a,some m=>sliceU H k a l h c m
            | _,_=>none
        | _,_,_=>none
      | _=>none
    | some (.array n el)=>match x with
      | .pointer (some a)=>match sizeT P el,optN T 0 lo,optN T n hi,optN T n mx with
        | some k,some l,some h,some m=>match Nat.blt n unk with
          | true=>sliceX k (some a) l h m n
          | false=>none
        | _,_,_,_=>none
      | _=>none
    | _=>none
def loadV (P:Program) (o:Oper) (T:Tr Value) (H:AH):Option Value:=match o.op with
  | .load t x=>match ael T x with
    | .pointer (some a)=>loadA P t H a
    | _=>none
  | .lookup t m k ok=>lookA P t H (ael T m) (ael T k) ok
  | .slice t x lo hi mx=>match P.underlying t with
    | some .string=>plainV P T o
    | _=>sliceA P t H T (ael T x) lo hi mx
  | _=>none
inductive Mk where
  | ptr | sl (n c:Nat) | mp
def Mk.val:Mk -> Nat -> Value
  | .ptr,h=>.pointer (some ⟨h,0,none⟩)
  | .sl n c,h=>.slice (some ⟨h,0,none⟩) n c
  | .mp,h=>.map (some h)
def cellsB (l:List Value) (ty:TypeId):AB:=match Tr.ofL undef l 0 .lf with
  | .lf=>.cells (lenL l) .lf ty 0 false
  | .nd a b c=>.cells (lenL l) (.nd a b c) ty 0 false
def elemT (P:Program) (t:TypeId):Option TypeId:=match P.underlying t with
  | some (.slice el)=>some el
  | _=>none
def newV (P:Program) (o:Oper) (T:Tr Value):Option (AB × Mk):=match o.op with
  | .alloc t=>match zeroT P t with
    | some z=>some (cellsB z t,.ptr)
    | none=>none
  | .box t x=>some (cellsB (cellsL (ael T x)) t,.ptr)
  | .buildSlice t len parts=>match elemT P t with
    | some el=>match sizeT P el,zeroT P el with
      | some k,some z=>match Nat.ble (len * k) 16777216,Nat.beq (lenL z) k,Nat.blt 0 k with
        | true,true,true=>match fillA (λ i=>some (i * k,k)) (partsA T parts.toList) (repL z len) with
          | some l=>some (cellsB l el,.sl len len)
          | none=>none
        | _,_,_=>none
      | _,_=>none
    | none=>none
  | .makeSlice t l c=>match elemT P t with
    | some el=>match P.info? el with
      | some inf=>match zeroT P el,asN (ael T l),asN (ael T c) with
        | some z,some n,some m=>match Nat.ble n m,Nat.ble (inf.bytes * m) 281474976710656,Nat.blt m unk,Nat.beq (lenL z) inf.size,Nat.blt 0 inf.size,Nat.blt 0 inf.bytes with
          | true,true,true,true,true,true=>some (cellsB (repL z m) el,.sl n m)
          | _,_,_,_,_,_=>none
        | _,_,_=>none
      | none=>none
    | none=>none
  | .makeMap t r=>match r with
    | none=>some (.map [] 0,.mp)
    | some r=>match P.underlying t,ael T r with
      | some (.map _ _),.int _ _=>some (.map [] 0,.mp)
      | _,_=>none
  | _=>none
inductive AN where
  | val (v:Value) (H:AH) (n:Nat)
  | ent (f:FuncId) (args:List Value)
  | rnd (l:Nat) (args:List Value)
  | dfr (d:Deferred)
  | rcv
def writeN (t:Tr Value) (i:Nat):List Value -> Tr Value
  | []=>t
  | v :: l=>writeN (tset t i v) (i+1) l
def flatL:List Value -> Bool
  | []=>true
  | v :: l=>match v with
    | .agg _=>false
    | .tuple _=>false
    | _=>flatL l
def putSeg (H:AH) (a:Addr) (vs:List Value):Option AH:=match a.spot,hget H a.block with
  | none,some (.cells n tr ty w false)=>match Nat.ble (a.off+lenL vs) n,flatL vs with
    | true,true=>some (hset H a.block (some (.cells n (writeN tr a.off vs) ty w false)))
    | _,_=>none
  | _,_=>none
def storeA (P:Program) (t:TypeId) (H:AH) (a:Addr) (v:Value):Option AH:=match sizeT P t with
  | some k=>match Nat.beq (lenL (cellsL v)) k with
    | true=>putSeg H a (cellsL v)
    | false=>none
  | none=>none
def putKey (k v:Value) (clock:Nat):List (Value × Value × Nat) -> Option (List (Value × Value × Nat) × Nat)
  | []=>some ([(k,v,clock)],clock+1)
  | (k',v',b) :: l=>match eqKey k k' with
    | some true=>some ((k,v,b) :: l,clock)
    | some false=>match putKey k v clock l with
      | some (l,c)=>some ((k',v',b) :: l,c)
      | none=>none
    | none=>none
def updA (P:Program) (t:TypeId) (H:AH) (m k v:Value):Option AH:=match P.underlying t with
  | some (.map kt _)=>match keyT P kt k,m with
    | true,.map (some r)=>match hget H r with
      | some (.map es c)=>match putKey k v c es with
        | some (es,c)=>some (hset H r (some (.map es c)))
        | none=>none
      | _=>none
    | _,_=>none
  | _=>none
def srcA (H:AH) (k:Nat):Value -> Option (List Value)
  | .slice none n _=>match n with
    | 0=>some []
    | _+1=>none
  | .slice (some a) n _=>match a.spot,hget H a.block with
    | none,some (.cells nn tr _ _ _)=>match Nat.ble (a.off+n * k) nn with
      | true=>some (readN tr a.off (n * k))
      | false=>none
    | _,_=>none
  | _=>none
def lenV:Value -> Nat
  | .slice _ n _=>n
  | _=>0
def grownB (l:List Value) (ty:TypeId) (w:Nat):AB:=match Tr.ofL undef l 0 .lf with
  | .lf=>.cells (lenL l) .lf ty w false
  | .nd a b c=>.cells (lenL l) (.nd a b c) ty w false
def appIn (H:AH) (n k len add cap:Nat) (base:Option Addr) (new:List Value):Option AN:=match base with
  | some a=>match a.spot with
    | none=>match putSeg H ⟨a.block,a.off+len * k,none⟩ new with
      | some H=>some (.val (.slice (some a) (len+add) cap) H n)
      | none=>none
    | some _=>none
  | none=>match new with
    | []=>some (.val (.slice none (len+add) cap) H n)
    | _=>none
def appNew (H:AH) (n k len add:Nat) (el:TypeId) (old new:List Value):AN:=.val (.slice (some ⟨n,0,none⟩) (len+add) unk) (hset H n (some (grownB (old++new) el k))) (n+1)
def wid (H:AH) (a:Addr):Option (Nat × Nat × TypeId):=match hget H a.block with
  | some (.cells nn _ ty w false)=>some (nn,w,ty)
  | _=>none
def appU (H:AH) (n k len add cap:Nat) (a:Addr) (el:TypeId) (new:List Value):Option AN:=match a.spot,a.off,Nat.beq cap unk,wid H a with
  | none,0,true,some (nn,w,ty)=>match Nat.beq w k,Nat.ble (len * k) nn,Nat.beq ty el with
    | true,true,true=>match Nat.ble ((len+add) * k) nn with
      | true=>appIn H n k len add cap (some a) new
      | false=>match srcA H k (.slice (some a) len cap) with
        | some old=>some (appNew (hset H a.block none) n k len add el old new)
        | none=>none
    | _,_,_=>none
  | _,_,_,_=>none
def contB (tr:Tr Value) (i:Nat) (new:List Value) (el:TypeId) (k:Nat):AB:=match writeN tr i new with
  | .lf=>.cells (i+lenL new) .lf el k false
  | .nd a b c=>.cells (i+lenL new) (.nd a b c) el k false
def appU2 (H:AH) (n k len add cap:Nat) (a:Addr) (el:TypeId) (new:List Value):Option AN:=match a.spot,a.off,Nat.beq cap unk,hget H a.block with
  | none,0,true,some (.cells nn tr ty w false)=>match Nat.beq w k,Nat.ble (len * k) nn,Nat.beq ty el with
    | true,true,true=>match Nat.ble ((len+add) * k) nn with
      | true=>appIn H n k len add cap (some a) new
      | false=>some (.val (.slice (some ⟨n,0,none⟩) (len+add) unk) (hset (hset H a.block none) n (some (contB tr (len * k) new el k))) (n+1))
    | _,_,_=>none
  | _,_,_,_=>none
def appVi (P:Program) (H:AH) (n:Nat) (el:TypeId) (x y:Value):Option AN:=match P.info? el,zeroT P el with
  | some inf,some z=>match inf.size,inf.bytes,x with
    | k+1,by_+1,.slice base len cap=>match srcA H (k+1) y,Nat.beq (lenL z) (k+1),Nat.blt (len+lenV y) 1000000,Nat.blt by_ 1000000 with
      | some new,true,true,true=>match flatL new,Nat.blt cap unk with
        | true,true=>match Nat.ble (len+lenV y) cap with
          | true=>appIn H n (k+1) len (lenV y) cap base new
          | false=>match srcA H (k+1) (.slice base len cap) with
            | some old=>some (appNew H n (k+1) len (lenV y) el old new)
            | none=>none
        | true,false=>match base with
          | some a=>appU2 H n (k+1) len (lenV y) cap a el new
          | none=>none
        | _,_=>none
      | _,_,_,_=>none
    | _,_,_=>none
  | _,_=>none
def isSl (P:Program) (t:TypeId):Bool:=match P.underlying t with
  | some (.slice _)=>true
  | _=>false
def appA (P:Program) (H:AH) (n:Nat) (c:Call) (T:Tr Value):Option AN:=match c with
  | ⟨_,⟨[x,y]⟩,⟨[t,u]⟩⟩=>match elemT P t,isSl P u with
    | some el,true=>appVi P H n el (ael T x) (ael T y)
    | _,_=>none
  | _=>none
def hasB (P:Program) (f:FuncId):Bool:=match P.funcs[f]? with
  | some fn=>!(fn.name == "runtime.NumGoroutine") && fn.body.isSome
  | none=>false
def calleeA (P:Program) (v:Value) (args:List Value):Option AN:=match v with
  | .func fn first captured=>match fn with
    | .func f=>match hasB P f with
      | true=>some (.ent f (first.toList++(args++captured.toList)))
      | false=>none
    | .yield l=>match first.toList with
      | []=>some (.rnd l args)
      | _=>none
    | _=>none
  | _=>none
def methA (P:Program) (t:TypeId) (name:String):Option FuncId:=match P.info? t,Nat.blt 0 (P.types.size+Made.depth) with
  | some i,true=>match i.methods.find? (·.name == name) with
    | some m=>match m.path.toList,m.func,P.underlying t with
      | [],some (f,true),some (.pointer _)=>some f
      | [],some (_,false),some (.pointer _)=>none
      | [],some (f,false),some _=>some f
      | _,_,_=>none
    | none=>none
  | _,_=>none
def copyV (P:Program) (H:AH) (n:Nat) (el:TypeId) (x y:Value):Option AN:=match sizeT P el with
  | some k=>match x,y with
    | .slice (some a) dl _,.slice b sl cc=>match a.spot,srcA H k (.slice b (Nat.min sl dl) cc) with
      | none,some vs=>match putSeg H a vs with
        | some H=>some (.val (.int .i64 (.ofNat (Nat.min sl dl))) H n)
        | none=>none
      | _,_=>none
    | _,_=>none
  | none=>none
def copyA (P:Program) (H:AH) (n:Nat) (c:Call) (T:Tr Value):Option AN:=match c with
  | ⟨_,⟨[x,y]⟩,⟨[t,_]⟩⟩=>match elemT P t with
    | some el=>copyV P H n el (ael T x) (ael T y)
    | none=>none
  | _=>none
def effV (P:Program) (o:Oper) (T:Tr Value) (H:AH) (n:Nat):Option AN:=match o.op with
  | .store t x y=>match ael T x with
    | .pointer (some a)=>match storeA P t H a (ael T y) with
      | some H=>some (.val undef H n)
      | none=>none
    | _=>none
  | .mapUpdate t m k v=>match updA P t H (ael T m) (ael T k) (ael T v) with
    | some H=>some (.val undef H n)
    | none=>none
  | .insert t m k v=>match updA P t H (ael T m) (ael T k) (ael T v) with
    | some H=>some (.val undef H n)
    | none=>none
  | .defer c=>match c.callee with
    | .value f=>match ael T f with
      | .func fn first captured=>some (.dfr { target:=.fn fn captured,args:=⟨first.toList++mapE T c.args.toList⟩ })
      | _=>none
    | _=>none
  | .call c=>match c.callee with
    | .value f=>match calleeA P (ael T f) (mapE T c.args.toList) with
      | some x=>some x
      | none=>match plainV P T o with
        | some v=>some (.val v H n)
        | none=>none
    | .builtin b=>match b with
      | .append=>appA P H n c T
      | .copy=>copyA P H n c T
      | .recover=>some .rcv
      | _=>none
    | .invoke recv name=>match ael T recv with
      | .iface t v=>match methA P t name with
        | some f=>match hasB P f with
          | true=>some (.ent f (v :: mapE T c.args.toList))
          | false=>none
        | none=>none
      | _=>none
  | _=>none
def newA (b:AB) (m:Mk) (H:AH) (n:Nat):AN:=.val (m.val n) (hset H n (some b)) (n+1)
def aop (P:Program) (G:Nat) (o:Oper) (T:Tr Value) (H:AH) (n:Nat):Option AN:=match opsI o.op with
  | none=>none
  | some l=>match aoks G l with
    | false=>none
    | true=>match cls P o.op with
      | .pu=>match pureV P o T with
        | some v=>some (.val v H n)
        | none=>none
      | .lo=>match loadV P o T H with
        | some v=>some (.val v H n)
        | none=>none
      | .nw=>match newV P o T with
        | some (b,m)=>some (newA b m H n)
        | none=>none
      | .ef=>effV P o T H n
inductive Ex where
  | normal
  | exit (id:Nat)
  | ret
inductive Task where
  | code (r:Option Nat) (N:Nat) (c:Code) (s:St)
  | loop (r:Option Nat) (N:Nat) (c:Code) (s:St)
  | fn (f:FuncId) (args:List Value) (H:AH) (n:Nat)
  | rnd (l:Nat) (T:Tr Value) (N:Nat) (assign body:Code) (H:AH) (n:Nat)
  | dfn (f:FuncId) (args:List Value) (H:AH) (n:Nat)
inductive Rs where
  | cd (e:Ex) (s:St)
  | fn (v:Value) (H:AH) (n:Nat)
def wantA (ops:Array Oper) (o:Oper) (T:Tr Value):Option Bool:=match o.guard with
  | none=>some true
  | some (j,want)=>match (ops[j]?).bind (·.dst) with
    | some d=>match tget T d with
      | .bool b=>some (b == want)
      | .tuple _=>some false
      | _=>none
    | none=>none
def putT (N:Nat) (dst:Option Tmp) (v:Value) (T:Tr Value):Option (Tr Value):=match dst with
  | none=>some T
  | some d=>match Nat.blt d N with
    | true=>some (tset T d v)
    | false=>none
def setPs:List Tmp -> List Value -> Tr Value -> Tr Value
  | p :: ps,v :: vs,T=>setPs ps vs (tset T p v)
  | _,_,T=>T
def allLt (N:Nat):List Tmp -> Bool
  | []=>true
  | p :: ps=>match Nat.blt p N with
    | true=>allLt N ps
    | false=>false
inductive OpR where
  | val (v:Value) (H:AH) (n:Nat)
  | dfr (d:Deferred)
def stOp (P:Program) (G:Nat) (ih:Task -> Option Rs) (r:Option Nat) (o:Oper) (T:Tr Value) (H:AH) (n:Nat):Option OpR:=match aop P G o T H n with
  | none=>none
  | some x=>match x with
    | .val v H n=>some (.val v H n)
    | .ent f args=>match ih (.fn f args H n) with
      | some (.fn v H n)=>some (.val v H n)
      | _=>none
    | .rnd l args=>match hget H l with
      | some (.loop _ _ T N' ps assign body _)=>match Nat.beq (lenL args) ps.size,allLt N' ps.toList with
        | true,true=>match ih (.rnd l (setPs ps.toList args T) N' assign body H n) with
          | some (.fn v H n)=>some (.val v H n)
          | _=>none
        | _,_=>none
      | _=>none
    | .dfr d=>match r with
      | none=>some (.dfr d)
      | some _=>none
    | .rcv=>none
def evOps (P:Program) (G:Nat) (ih:Task -> Option Rs) (r:Option Nat) (N:Nat) (ops:Array Oper):List Oper -> St -> Option St
  | [],s=>some s
  | o :: rest,s=>match wantA ops o s.T with
    | none=>none
    | some false=>match putT N o.dst undef s.T with
      | some T=>evOps P G ih r N ops rest ⟨T,s.D,s.H,s.n⟩
      | none=>none
    | some true=>match stOp P G ih r o s.T s.H s.n with
      | none=>none
      | some (.val v H n)=>match putT N o.dst v s.T with
        | some T=>evOps P G ih r N ops rest ⟨T,s.D,H,n⟩
        | none=>none
      | some (.dfr d)=>match putT N o.dst undef s.T with
        | some T=>evOps P G ih r N ops rest ⟨T,d :: s.D,s.H,s.n⟩
        | none=>none
mutual
def veq:Value -> Value -> Bool
  | .bool a,.bool b=>a == b
  | .int k a,.int k' b=>match decide (k=k') with
    | true=>a == b
    | false=>false
  | .string a,.string b=>a == b
  | .pointer a,.pointer b=>decide (a=b)
  | .slice a n c,.slice b n' c'=>match decide (a=b),Nat.beq n n',Nat.beq c c' with
    | true,true,true=>true
    | _,_,_=>false
  | .map a,.map b=>decide (a=b)
  | .func fn f c,.func fn' f' c'=>match decide (fn=fn'),veqA f f' with
    | true,true=>veqA c c'
    | _,_=>false
  | .nilFunc,.nilFunc=>true
  | .iface t v,.iface t' v'=>match Nat.beq t t' with
    | true=>veq v v'
    | false=>false
  | .nilIface,.nilIface=>true
  | .agg c,.agg c'=>veqA c c'
  | .tuple c,.tuple c'=>veqA c c'
  | _,_=>false
def veqA:Array Value -> Array Value -> Bool
  | ⟨l⟩,⟨l'⟩=>veqL l l'
def veqL:List Value -> List Value -> Bool
  | [],[]=>true
  | v :: l,v' :: l'=>match veq v v' with
    | true=>veqL l l'
    | false=>false
  | _,_=>false
end
def bindE (e:Edge):Bool:=match e.ground with
  | .textOnly _=>false
  | .gcOnly _=>false
  | _=>true
def memN (i:Nat):List Nat -> Bool
  | []=>false
  | j :: l=>match Nat.beq i j with
    | true=>true
    | false=>memN i l
def lsAt {α:Type}:List α -> Nat -> Option α
  | [],_=>none
  | b :: l,i=>match i with
    | 0=>some b
    | i+1=>lsAt l i
def befE (bs:List (List Nat)):List Edge -> Option (List Nat)
  | []=>some []
  | e :: es=>match befE bs es with
    | none=>none
    | some l=>match bindE e with
      | false=>some l
      | true=>match lsAt bs e.on with
        | some b=>some (e.on :: (b++l))
        | none=>none
def befs:List Oper -> List (List Nat) -> Option (List (List Nat))
  | [],bs=>some bs
  | o :: l,bs=>match befE bs o.after.toList with
    | some b=>befs l (bs++[b])
    | none=>none
def tmpsO:List Operand -> List Tmp
  | []=>[]
  | x :: l=>match x with
    | .tmp t=>t :: tmpsO l
    | _=>tmpsO l
def looks (ops:Array Oper) (o:Oper):Option (List Tmp):=match opsI o.op with
  | none=>none
  | some l=>match o.guard with
    | none=>some (tmpsO l)
    | some (j,_)=>match (ops[j]?).bind (·.dst) with
      | some d=>some (d :: tmpsO l)
      | none=>none
def isE (P:Program) (o:Oper):Bool:=match cls P o.op with
  | .ef=>true
  | _=>false
def isN (P:Program) (o:Oper):Bool:=match cls P o.op with
  | .nw=>true
  | _=>false
def pairQ (P:Program) (ops:Array Oper) (i:Nat) (o o':Oper) (b':List Nat):Bool:=match memN i b' with
  | true=>match o.dst,o'.dst with
    | some d,some d'=>!(Nat.beq d d')
    | _,_=>true
  | false=>match isE P o',isE P o || isN P o with
    | true,true=>false
    | _,_=>match looks ops o,looks ops o' with
      | some l,some l'=>match o.dst,o'.dst with
        | some d,some d'=>!(Nat.beq d d') && !(memN d l') && !(memN d' l)
        | some d,none=>!(memN d l')
        | none,some d'=>!(memN d' l)
        | none,none=>true
      | _,_=>false
def pairsQ (P:Program) (ops:Array Oper) (o':Oper) (b':List Nat):Nat -> List Oper -> Bool
  | _,[]=>true
  | i,o :: l=>match pairQ P ops i o o' b' with
    | true=>pairsQ P ops o' b' (i+1) l
    | false=>false
def okO (G:Nat) (o:Oper):Bool:=match opsI o.op with
  | some l=>aoks G l
  | none=>false
def statQ (P:Program) (G:Nat) (ops:Array Oper) (all:List Oper):Nat -> List Oper -> List (List Nat) -> Bool
  | _,[],[]=>true
  | i,o :: l,b :: bs=>match okO G o,pairsQ P ops o b 0 (all.take i),(looks ops o).isSome with
    | true,true,true=>statQ P G ops all (i+1) l bs
    | _,_,_=>false
  | _,_,_=>false
def drInfo (P:Program) (G:Nat) (ops:Array Oper):Option (List (List Nat)):=match befs ops.toList [] with
  | some bs=>match statQ P G ops ops.toList 0 ops.toList bs with
    | true=>some bs
    | false=>none
  | none=>none
structure DLd where
  i:Nat
  o:Oper
  b:List Nat
  T:Tr Value
  v:Value
structure DSt where
  T:Tr Value
  H:AH
  n:Nat
  pend:List (Nat × AB)
  stg:List (Nat × List Nat × AH)
  lds:List DLd
def placeA (H:AH):List (Nat × AB) -> AH
  | []=>H
  | (h,b) :: l=>placeA (hset H h (some b)) l
def dOp (P:Program) (G:Nat) (ih:Task -> Option Rs) (r:Option Nat) (N:Nat) (ops:Array Oper) (i:Nat) (o:Oper) (b:List Nat) (s:DSt):Option DSt:=match wantA ops o s.T with
  | none=>none
  | some false=>match putT N o.dst undef s.T with
    | some T=>some { s with T:=T }
    | none=>none
  | some true=>match cls P o.op with
    | .pu=>match pureV P o s.T with
      | some v=>match putT N o.dst v s.T with
        | some T=>some { s with T:=T }
        | none=>none
      | none=>none
    | .lo=>match loadV P o s.T s.H with
      | some v=>match putT N o.dst v s.T with
        | some T=>some { s with T:=T,lds:=⟨i,o,b,s.T,v⟩ :: s.lds }
        | none=>none
      | none=>none
    | .nw=>match newV P o s.T with
      | some (bl,m)=>match putT N o.dst (m.val s.n) s.T with
        | some T=>some { s with T:=T,n:=s.n+1,pend:=s.pend++[(s.n,bl)] }
        | none=>none
      | none=>none
    | .ef=>match placeA s.H s.pend with
      | H=>match stOp P G ih r o s.T H s.n with
        | some (.val v H' n')=>match putT N o.dst v s.T with
          | some T=>some { s with T:=T,H:=H',n:=n',pend:=[],stg:=s.stg++[(i,b,H')] }
          | none=>none
        | _=>none
def dOpsi (P:Program) (G:Nat) (ih:Task -> Option Rs) (r:Option Nat) (N:Nat) (ops:Array Oper):Nat -> List Oper -> List (List Nat) -> DSt -> Option DSt
  | _,[],_,s=>some s
  | i,o :: l,b :: bs,s=>match dOp P G ih r N ops i o b s with
    | some s=>dOpsi P G ih r N ops (i+1) l bs s
    | none=>none
  | _,_,_,_=>none
def ldQ (P:Program) (d:DLd) (H:AH):Bool:=match loadV P d.o d.T H with
  | some v=>veq d.v v
  | none=>false
def chkL (P:Program) (d:DLd):List Nat -> AH -> List (Nat × List Nat × AH) -> Bool
  | be,H,[]=>match memN d.i be with
    | true=>true
    | false=>ldQ P d H
  | be,H,(e,be',H') :: l=>match memN d.i be || memN e d.b with
    | true=>chkL P d be' H' l
    | false=>match ldQ P d H with
      | true=>chkL P d be' H' l
      | false=>false
def chkLs (P:Program) (H:AH) (stg:List (Nat × List Nat × AH)):List DLd -> Bool
  | []=>true
  | d :: l=>match chkL P d [] H stg with
    | true=>chkLs P H stg l
    | false=>false
def evDr (P:Program) (G:Nat) (ih:Task -> Option Rs) (r:Option Nat) (N:Nat) (ops:Array Oper) (s:St):Option St:=match drInfo P G ops with
  | none=>none
  | some bs=>match dOpsi P G ih r N ops 0 ops.toList bs ⟨s.T,s.H,s.n,[],[],[]⟩ with
    | none=>none
    | some d=>match chkLs P s.H d.stg d.lds with
      | true=>some ⟨d.T,s.D,placeA d.H d.pend,d.n⟩
      | false=>none
def jumpE:Code -> Option Ex
  | .ret=>some .ret
  | .exit id=>some (.exit id)
  | _=>none
def evC (P:Program) (G:Nat) (ih:Task -> Option Rs) (r:Option Nat) (N:Nat):Code -> St -> Option (Ex × St)
  | .skip,s=>some (.normal,s)
  | .label _,s=>some (.normal,s)
  | .region _ ops draw,s=>match draw with
    | false=>match evOps P G ih r N ops ops.toList s with
      | some s=>some (.normal,s)
      | none=>none
    | true=>match evDr P G ih r N ops s with
      | some s=>some (.normal,s)
      | none=>none
  | .seq a b,s=>match evC P G ih r N a s with
    | some (.normal,s)=>evC P G ih r N b s
    | x=>x
  | .cond c x y,s=>match ael s.T c with
    | .bool true=>evC P G ih r N x s
    | .bool false=>evC P G ih r N y s
    | _=>none
  | .block id c,s=>match evC P G ih r N c s with
    | some (.exit id',s)=>match Nat.beq id' id with
      | true=>some (.normal,s)
      | false=>some (.exit id',s)
    | x=>x
  | .loop c,s=>match evC P G ih r N c s with
    | some (.normal,s)=>match ih (.loop r N c s) with
      | some (.cd e s)=>some (e,s)
      | _=>none
    | x=>x
  | .rangeFunc g ps assign body,s=>match ael s.T g,aok G g with
    | .func (.func f) first captured,true=>match hasB P f with
      | true=>match (match r with
        | none=>some (s.n,(⟨{ target:=.collected s.n,args:=#[] },[]⟩:Deferred × List Deferred).1 :: s.D,hset s.H s.n (some (.dfr false)),s.n+1)
        | some l0=>match hget s.H l0 with
          | some (.loop _ _ _ _ _ _ _ d)=>some (d,s.D,s.H,s.n)
          | _=>none) with
        | some (d,D,H,n)=>match ih (.fn f (first.toList++(.func (.yield n) #[] #[] :: captured.toList)) (hset H n (some (.loop .ready none s.T N ps assign body d))) (n+1)) with
          | some (.fn _ H' n')=>match hget H' n with
            | some (.loop st pend T' N' ps' as' bo' d')=>match st with
              | .busy=>none
              | _=>match pend with
                | none=>some (.normal,⟨s.T,D,hset H' n (some (.loop .exhausted pend T' N' ps' as' bo' d')),n'⟩)
                | some c=>match jumpE c with
                  | some e=>some (e,⟨s.T,D,hset H' n (some (.loop .exhausted pend T' N' ps' as' bo' d')),n'⟩)
                  | none=>none
            | _=>none
          | _=>none
        | none=>none
      | false=>none
    | _,_=>none
  | .exit id,s=>some (.exit id,s)
  | .scope c,s=>evC P G ih r N c s
  | .goto _,_=>none
  | .ret,s=>some (.ret,s)
  | .refuse _,_=>none
def resA (P:Program) (T:Tr Value) (H:AH):List ResultVar -> Option (List Value)
  | []=>some []
  | .tmp t :: l=>match resA P T H l with
    | some vs=>some (tget T t :: vs)
    | none=>none
  | .cell a t :: l=>match tget T a with
    | .pointer (some a)=>match loadA P t H a,resA P T H l with
      | some v,some vs=>some (v :: vs)
      | _,_=>none
    | _=>none
def oneV:List Value -> Value
  | [v]=>v
  | l=>.tuple ⟨l⟩
def leaveA (P:Program) (ih:Task -> Option Rs):List Deferred -> AH -> Nat -> Option (AH × Nat)
  | [],H,n=>some (H,n)
  | d :: ds,H,n=>match d.target with
    | .collected h=>match hget H h with
      | some (.dfr false)=>leaveA P ih ds (hset H h (some (.dfr true))) n
      | _=>none
    | .fn (.func f) captured=>match hasB P f with
      | true=>match ih (.dfn f (d.args.toList++captured.toList) H n) with
        | some (.fn _ H n)=>leaveA P ih ds H n
        | _=>none
      | false=>none
    | _=>none
def evOpsS (P:Program) (G:Nat) (N:Nat) (ops:Array Oper):List Oper -> St -> Option St
  | [],s=>some s
  | o :: rest,s=>match wantA ops o s.T with
    | none=>none
    | some false=>match putT N o.dst undef s.T with
      | some T=>evOpsS P G N ops rest ⟨T,s.D,s.H,s.n⟩
      | none=>none
    | some true=>match aop P G o s.T s.H s.n with
      | some (.val v H n)=>match putT N o.dst v s.T with
        | some T=>evOpsS P G N ops rest ⟨T,s.D,H,n⟩
        | none=>none
      | some .rcv=>match putT N o.dst .nilIface s.T with
        | some T=>evOpsS P G N ops rest ⟨T,s.D,s.H,s.n⟩
        | none=>none
      | _=>none
def evS (P:Program) (G:Nat) (ih:Task -> Option Rs) (N:Nat):Code -> St -> Option (Ex × St)
  | .seq a b,s=>match evS P G ih N a s with
    | some (.normal,s)=>evS P G ih N b s
    | x=>x
  | .cond c x y,s=>match ael s.T c with
    | .bool true=>evS P G ih N x s
    | .bool false=>evS P G ih N y s
    | _=>none
  | .region id ops false,s=>match evOpsS P G N ops ops.toList s with
    | some s=>some (.normal,s)
    | none=>match evC P G ih none N (.region id ops false) s with
      | some x=>some x
      | none=>none
  | c,s=>evC P G ih none N c s
def argsT (args:List Value):Tr Value:=Tr.ofL undef args 0 .lf
def body? (P:Program) (f:FuncId):Option (Func × Code):=match P.funcs[f]? with
  | some fn=>match fn.body with
    | some c=>some (fn,c)
    | none=>none
  | none=>none
def stepT (P:Program) (G:Nat) (ih:Task -> Option Rs):Task -> Option Rs
  | .code r N c s=>match evC P G ih r N c s with
    | some (e,s)=>some (.cd e s)
    | none=>none
  | .loop r N c s=>match evC P G ih r N (.loop c) s with
    | some (e,s)=>some (.cd e s)
    | none=>none
  | .fn f args H n=>match body? P f with
    | some (fn,c)=>match Nat.ble (lenL args) fn.ntmps with
      | true=>match evC P G ih none fn.ntmps c ⟨argsT args,[],H,n⟩ with
        | some (.exit _,_)=>none
        | some (_,s)=>match leaveA P ih s.D s.H s.n with
          | some (H,n)=>match resA P s.T H fn.results.toList with
            | some vs=>some (.fn (oneV vs) H n)
            | none=>none
          | none=>none
        | none=>none
      | false=>none
    | none=>none
  | .rnd l T N assign body H n=>match evC P G ih (some l) N assign ⟨T,[],H,n⟩ with
    | some (.normal,s)=>match hget s.H l,s.D with
      | some (.loop .ready pend T' N' ps as' bo d),[]=>match evC P G ih (some l) N body ⟨s.T,[],hset s.H l (some (.loop .busy pend T' N' ps as' bo d)),s.n⟩ with
        | some (e,s)=>match hget s.H l with
          | some (.loop _ _ T' N' ps as' bo d)=>match e with
            | .normal=>some (.fn (.bool true) (hset s.H l (some (.loop .ready none T' N' ps as' bo d))) s.n)
            | .ret=>some (.fn (.bool false) (hset s.H l (some (.loop .done (some .ret) T' N' ps as' bo d))) s.n)
            | .exit id=>some (.fn (.bool false) (hset s.H l (some (.loop .done (some (.exit id)) T' N' ps as' bo d))) s.n)
          | _=>none
        | none=>none
      | _,_=>none
    | _=>none
  | .dfn f args H n=>match body? P f with
    | some (fn,c)=>match Nat.ble (lenL args) fn.ntmps with
      | true=>match evS P G ih fn.ntmps c ⟨argsT args,[],H,n⟩ with
        | some (.exit _,_)=>none
        | some (_,s)=>match s.D with
          | []=>match resA P s.T s.H fn.results.toList with
            | some vs=>some (.fn (oneV vs) s.H s.n)
            | none=>none
          | _=>none
        | none=>none
      | false=>none
    | none=>none
def runA (P:Program) (G:Nat):Nat -> Task -> Option Rs
  | 0,_=>none
  | k+1,t=>stepT P G (runA P G k) t
end
end Go.Proofs.YthoijjeddhfcnaaGreat
