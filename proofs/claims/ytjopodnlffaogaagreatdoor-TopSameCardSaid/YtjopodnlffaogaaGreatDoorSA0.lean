/- A part of the proof of TopSame: TpAbs0, TpAbs1, TpAbs2, TpAbs3, TpAbs4, TpAbs5, TpAbs6, TpAbs7, TpAbs8, TpAbs9, TpAbs10. -/
import Derived.OrdersHeld
import Derived.Laws.AppendOwn
import Derived.Below
import Derived.Laws.CopyRow
import Derived.Deep.AppendSrc
import Derived.Laws.BytesString
import Derived.Lib.SlBytesConst
set_option linter.unusedVariables false
set_option linter.unusedSimpArgs false
set_option maxRecDepth 100000
set_option maxHeartbeats 4000000
section
namespace Go.Proofs.YtjopodnlffaogaaGreatDoor.Abs
inductive AO where
 |row (cs:List Value) (e:TypeId) (m:Nat)
 |obj (o:Obj)
inductive T where
 |nil
 |node (v:Option AO) (l r:T)
noncomputable def T.get (t:T):Nat→Option AO:=
 T.rec (motive:=fun _=>Nat→Option AO) (fun _=>none) (fun v _ _ gl gr n=>Nat.rec v (fun m _=>Bool.rec (gl (Nat.div m 2)) (gr (Nat.div m 2)) (Nat.beq (Nat.mod m 2) 1)) n) t
noncomputable def T.one (f:Nat):Nat→Option AO→T:=
 Nat.rec (motive:=fun _=>Nat→Option AO→T) (fun _ _=> .nil) (fun _ s n v=>Nat.rec (.node v .nil .nil) (fun m _=>Bool.rec (.node none (s (Nat.div m 2) v) .nil) (.node none .nil (s (Nat.div m 2) v)) (Nat.beq (Nat.mod m 2) 1)) n) f
noncomputable def T.set (t:T):Nat→Option AO→T:=
 T.rec (motive:=fun _=>Nat→Option AO→T) (fun n v=>T.one 40 n v) (fun w l r sl sr n v=>Nat.rec (.node v l r) (fun m _=>Bool.rec (.node w (sl (Nat.div m 2) v) r) (.node w l (sr (Nat.div m 2) v)) (Nat.beq (Nat.mod m 2) 1)) n) t
structure A where
 next:Nat
 t:T
noncomputable def A.get (a:A) (b:Nat):Option AO:=a.t.get b
noncomputable def A.put (a:A) (b:Nat) (v:Option AO):A:=⟨a.next,a.t.set b v⟩
noncomputable def A.new (a:A) (o:AO):A:=⟨a.next+1,a.t.set a.next (some o)⟩
def A.room (a:A):Bool:=Nat.ble (a.next+2) 1000000
inductive FT where
 |nil
 |node (v:Value) (l r:FT)
abbrev Fr:=FT
noncomputable def iF (t:Fr):Nat→Value:=
 FT.rec (motive:=fun _=>Nat→Value) (fun _=>undef) (fun v _ _ gl gr n=>Nat.rec v (fun m _=>Bool.rec (gl (Nat.div m 2)) (gr (Nat.div m 2)) (Nat.beq (Nat.mod m 2) 1)) n) t
noncomputable def fM (t:Fr):Nat→Value→Fr:=
 FT.rec (motive:=fun _=>Nat→Value→FT) (fun _ _=> .nil) (fun w l r sl sr n v=>Nat.rec (.node v l r) (fun m _=>Bool.rec (.node w (sl (Nat.div m 2) v) r) (.node w l (sr (Nat.div m 2) v)) (Nat.beq (Nat.mod m 2) 1)) n) t
noncomputable def fresh (f:Nat):Nat→Fr:=
 Nat.rec (motive:=fun _=>Nat→FT) (fun _=> .nil) (fun _ s n=>bif Nat.beq n 0 then .nil else .node undef (s (n / 2)) (s ((n - 1) / 2))) f
noncomputable def pL (t:Fr) (d:Option Tmp) (v:Value):Fr:=
 match d with
 |some d=>fM t d v
 |none=>t
noncomputable def ev (t:Fr) (x:Operand):Value:=
 match x with
 | .tmp i=>iF t i
 | .const v=>v
 | .global g=> .pointer (some ⟨g,0,none⟩)
 | .func f=> .func (.func f) #[] #[]
def jC {α:Type} (P:Program):Sem α→Option α
 | .pure a=>some a
 | .program k=>jC P (k P)
 | .mark _ k=>jC P k
 |_=>none
def flatFn:Fn→Bool
 | .func _| .method _| .methodOf .. =>true
 |_=>false
mutual
def flat:Value→Bool
 | .pointer (some _)=>false
 | .slice (some _) _ _=>false
 | .map (some _)=>false
 | .chan (some _)=>false
 | .func fn a b=>flatFn fn&&rF a&&rF b
 | .iface _ v=>flat v
 | .agg c=>rF c
 | .tuple c=>rF c
 |_=>true
def rF:Array Value→Bool
 |⟨l⟩=>fC l
def fC:List Value→Bool
 | []=>true
 |v :: l=>flat v&&fC l
end
def one:Value→Bool
 | .agg _| .tuple _=>false
 |_=>true
noncomputable def take? (l:List Value):Nat→Nat→Option (List Value):=
 List.rec (motive:=fun _=>Nat→Nat→Option (List Value)) (fun o n=>bif Nat.beq o 0&&Nat.beq n 0 then some [] else none)
  (fun v _ k o n=>bif Nat.beq o 0 then (bif Nat.beq n 0 then some [] else match k 0 (n - 1) with|some r=>some (v :: r)|none=>none) else k (o - 1) n) l
noncomputable def lay? (l:List Value):Nat→List Value→Option (List Value):=
 List.rec (motive:=fun _=>Nat→List Value→Option (List Value)) (fun o xs=>match o,xs with|0,[]=>some []|_,_=>none)
  (fun v l k o xs=>bif Nat.beq o 0 then (match xs with| []=>some (v :: l)|x :: xs=>match k 0 xs with|some r=>some (x :: r)|none=>none) else match k (o - 1) xs with|some r=>some (v :: r)|none=>none) l
inductive R1 where
 |pu (v:Value)
 |rd (v:Value) (fs:List (Nat × Nat × Value))
 |act (v:Value) (a:A)
 |cl (f:FuncId) (args:List Value)
noncomputable def UD:TypeDesc→Bool
 | .struct _=>true
 | .array _ _=>true
 |_=>false
noncomputable def facts (b o:Nat):List Value→List (Nat × Nat × Value)
 | []=> []
 |v :: l=>(b,o,v) :: facts b (o+1) l
noncomputable def xC (P:Program) (a:A) (t:TypeId) (x:Value):Option R1:=
 match x with
 | .pointer (some ⟨b,o,none⟩)=>
  match a.get b,P.underlying t with
  |some (.row cs _ _),some d=>
   match UD d with
   |true=>match P.info? t with
    |some i=>match take? cs o i.size with
     |some vs=>some (.rd (.agg vs.toArray) (facts b o vs))
     |none=>none
    |none=>none
   |false=>match take? cs o 1 with
    |some [v]=>some (.rd v [(b,o,v)])
    |_=>none
  |_,_=>none
 |_=>none
noncomputable def oL (a:A) (b o:Nat) (xs:List Value):Option A:=
 match a.get b with
 |some (.row cs e m)=>match Nat.beq m 2,xs.all one&&Nat.blt b 1000000,lay? cs o xs with
  |false,true,some cs'=>some (a.put b (some (.row cs' e m)))
  |_,_,_=>none
 |_=>none
noncomputable def DK (P:Program) (a:A) (t:TypeId) (x v:Value):Option R1:=
 match x,P.info? t with
 | .pointer (some ⟨b,o,none⟩),some i=>
  match Nat.beq v.cells.toList.length i.size,oL a b o v.cells.toList with
  |true,some a'=>some (.act undef a')
  |_,_=>none
 |_,_=>none
noncomputable def newRow (a:A) (cs:List Value) (e:TypeId) (m:Nat):Option (Nat × A):=
 match a.room with
 |true=>some (a.next,a.new (.row cs e m))
 |false=>none
noncomputable def E4 (a:A) (e:TypeId) (v:Value):Option R1:=
 match newRow a v.cells.toList e 0 with
 |some (b,a')=>some (.act (.pointer (some ⟨b,0,none⟩)) a')
 |none=>none
noncomputable def CE (P:Program) (a:A) (e:TypeId):Option R1:=
 match P.info? e with
 |some i=>match i.zero with
  |some z=>match flat z with
   |true=>E4 a e z
   |false=>none
  |none=>none
 |none=>none
noncomputable def placesOf (P:Program):List Field→Option (List (Nat × Nat))
 | []=>some []
 |f :: l=>match P.info? f.type,placesOf P l with
  |some i,some ps=>some ((f.offset,i.size) :: ps)
  |_,_=>none
noncomputable def CB (P:Program) (t:TypeId) (parts:List (Nat × Value)):Option R1:=
 match P.info? t with
 |some i=>match i.zero with
  |some z=>match flat z with
   |true=>match P.underlying t with
    |some (.struct fields)=>match placesOf P fields.toList with
     |some ps=>match Instr.fill (ps.toArray[·]?) z.cells parts with
      |some cells=>some (.pu (.agg cells))
      |none=>none
     |none=>none
    |some (.array _ elem)=>match P.info? elem with
     |some j=>match Instr.fill (fun n=>some (n*j.size,j.size)) z.cells parts with
      |some cells=>some (.pu (.agg cells))
      |none=>none
     |none=>none
    |_=>none
   |false=>none
  |none=>none
 |none=>none
noncomputable def zeroCells (z:Value) (n:Nat):Array Value:=(Array.range n).map (z.cells[·% z.cells.size]!)
noncomputable def nC (P:Program) (a:A) (t:TypeId) (len:Nat) (parts:List (Nat × Value)):Option R1:=
 match P.underlying t with
 |some (.slice elem)=>match P.info? elem with
  |some i=>match i.zero with
   |some z=>match flat z,Nat.ble (len*i.size) 65536 with
    |true,true=>match Instr.fill (fun n=>some (n*i.size,i.size)) (zeroCells z (len*i.size)) parts with
     |some cells=>match newRow a cells.toList elem 0 with
      |some (b,a')=>some (.act (.slice (some ⟨b,0,none⟩) len (2*len)) a')
      |none=>none
     |none=>none
    |_,_=>none
   |none=>none
  |none=>none
 |_=>none
noncomputable def nW (P:Program) (a:A) (t:TypeId) (l c:Value):Option R1:=
 match P.underlying t,l,c with
 |some (.slice elem),.int .i64 (.ofNat l),.int .i64 (.ofNat c)=>match P.info? elem with
  |some i=>match i.zero with
   |some z=>match flat z,Nat.ble l c&&Nat.ble c 1048576&&Nat.ble i.bytes 4096 with
    |true,true=>match newRow a (zeroCells z (c*i.size)).toList elem 0 with
     |some (b,a')=>some (.act (.slice (some ⟨b,0,none⟩) l (2*c)) a')
     |none=>none
    |_,_=>none
   |none=>none
  |none=>none
 |_,_,_=>none
noncomputable def bound (x:Option Value) (d:Nat):Option Nat:=
 match x with
 |none=>some d
 |some (.int _ (.ofNat n))=>some n
 |_=>none
noncomputable def D1 (P:Program) (t:TypeId) (x:Value) (lo hi mx:Option Value):Option R1:=
 match mx,P.underlying t,x with
 |none,some (.slice elem),.slice (some ⟨b,o,none⟩) n k=>match P.info? elem,bound hi n,bound lo 0 with
  |some i,some h,some l=>match Nat.beq (k % 2) 0 with
   |true=>match Nat.ble l h&&Nat.ble h (k / 2) with
    |true=>some (.pu (.slice (some ⟨b,bif Nat.beq (k / 2) l then o else o+l*i.size,none⟩) (h - l) (2*(k / 2 - l))))
    |false=>none
   |false=>match Nat.ble l h&&Nat.ble h n&&(Nat.beq l 0 || Nat.blt l n) with
    |true=>some (.pu (.slice (some ⟨b,o+l*i.size,none⟩) (h - l) (k+2*l)))
    |false=>none
  |_,_,_=>none
 |some mx,some (.slice elem),.slice (some ⟨b,o,none⟩) n k=>match P.info? elem,bound hi n,bound lo 0,bound (some mx) 0 with
  |some i,some h,some l,some m=>match Nat.ble l h&&Nat.ble h m&&Nat.ble m (bif Nat.beq (k % 2) 0 then k / 2 else n)&&hi.isSome with
   |true=>some (.pu (.slice (some ⟨b,bif Nat.beq m l then o else o+l*i.size,none⟩) (h - l) (2*(m - l))))
   |false=>none
  |_,_,_,_=>none
 |none,some (.array n elem),.pointer (some ⟨b,o,none⟩)=>match P.info? elem,bound hi n,bound lo 0 with
  |some i,some h,some l=>match Nat.ble l h&&Nat.ble h n with
   |true=>some (.pu (.slice (some ⟨b,bif Nat.beq n l then o else o+l*i.size,none⟩) (h - l) (2*(n - l))))
   |false=>none
  |_,_,_=>none
 |_,_,_=>none
noncomputable def oS (P:Program) (s:TypeId) (x:Value) (f:Nat):Option R1:=
 match P.underlying s,x with
 |some (.struct fields),.pointer (some ⟨b,o,none⟩)=>match fields[f]? with
  |some fd=>match P.info? fd.type with
   |some i=>match Nat.beq i.size 0 with
    |false=>some (.pu (.pointer (some ⟨b,o+fd.offset,none⟩)))
    |true=>none
   |none=>none
  |none=>none
 |_,_=>none
noncomputable def oC (P:Program) (t:TypeId) (x ix:Value):Option R1:=
 match P.underlying t,x,ix with
 |some (.slice elem),.slice (some ⟨b,o,none⟩) n _,.int _ (.ofNat j)=>match P.info? elem,Nat.blt j n with
  |some i,true=>some (.pu (.pointer (some ⟨b,o+j*i.size,none⟩)))
  |_,_=>none
 |some (.array n elem),.pointer (some ⟨b,o,none⟩),.int _ (.ofNat j)=>match P.info? elem,Nat.blt j n with
  |some i,true=>some (.pu (.pointer (some ⟨b,o+j*i.size,none⟩)))
  |_,_=>none
 |_,_,_=>none
noncomputable def TO (x:Value):Option R1:=
 match x with
 | .pointer (some a)=>some (.pu x)
 | .func (.func _) _ _=>some (.pu x)
 |_=>none
noncomputable def sL (x:Value) (n:Nat):Option R1:=
 match x with
 | .tuple vs=>match vs[n]? with
  |some v=>some (.pu v)
  |none=>none
 |_=>none
noncomputable def cellsOf (a:A) (size n:Nat) (x:Value):Option (List Value):=
 match x with
 | .slice none _ _=>match Nat.beq (n*size) 0 with
  |true=>some []
  |false=>none
 | .slice (some ⟨b,o,none⟩) _ _=>match a.get b with
  |some (.row cs _ _)=>take? cs o (n*size)
  |_=>none
 | .string s=>match Nat.beq size 1&&Nat.ble n s.size with
  |true=>some ((s.data.toList.take n).map fun b=>Value.int .u8 b.toNat)
  |false=>none
 |_=>none
def TI (x:Value):Option Nat:=
 match x with
 | .slice _ n _=>some n
 | .string s=>some s.size
 |_=>none
def SM (d:Option TypeDesc):Bool:=
 match d with
 |some (.slice _)=>true
 |some .string=>true
 |_=>false
def KL (i:TypeInfo) (z:Value) (n m:Nat) (news:List Value):Bool:=
 flat z&&Nat.ble ((n+m)*i.bytes) 1073741824&&news.all one&&Nat.beq z.cells.toList.length i.size&&Nat.ble 1 i.size&&Nat.ble 1 i.bytes&&Nat.blt 0 m
noncomputable def qD (a:A) (elem:TypeId) (n m:Nat) (olds news:List Value):Option R1:=
 match newRow a (olds++news) elem 1 with
 |some (b,a')=>some (.act (.slice (some ⟨b,0,none⟩) (n+m) 1) a')
 |none=>none
noncomputable def P4 (a:A) (elem:TypeId) (size b o n k m:Nat) (news:List Value):Option R1:=
 match Nat.beq (k % 2) 0 with
 |true=>match Nat.ble (n+m) (k / 2) with
  |true=>match oL a b (o+n*size) news with
   |some a'=>some (.act (.slice (some ⟨b,o,none⟩) (n+m) k) a')
   |none=>none
  |false=>match a.get b with
   |some (.row cs _ _)=>match take? cs o (n*size) with
    |some olds=>qD a elem n m olds news
    |none=>none
   |_=>none
 |false=>match a.get b with
  |some (.row cs e md)=>match Nat.beq k 1&&Nat.beq o 0&&Nat.beq md 1&&Nat.beq e elem&&Nat.blt b 1000000,take? cs 0 (n*size) with
   |true,some olds=>qD (a.put b none) elem n m olds news
   |_,_=>none
  |_=>none
noncomputable def wT (P:Program) (a:A) (t tx:TypeId) (s x:Value):Option R1:=
 match P.underlying t,SM (P.underlying tx),TI x with
 |some (.slice elem),true,some m=>match P.info? elem with
  |some i=>match i.zero,cellsOf a i.size m x with
   |some z,some news=>match Nat.beq m 0,s with
    |true,.slice none 0 0=>some (.act s a)
    |true,.slice (some ⟨_,_,none⟩) _ _=>some (.act s a)
    |false,.slice none 0 0=>match KL i z 0 m news with
     |true=>qD a elem 0 m [] news
     |false=>none
    |false,.slice (some ⟨b,o,none⟩) n k=>match KL i z n m news with
     |true=>P4 a elem i.size b o n k m news
     |false=>none
    |_,_=>none
   |_,_=>none
  |none=>none
 |_,_,_=>none
noncomputable def JJ (P:Program) (a:A) (t:TypeId) (d s:Value):Option R1:=
 match P.underlying t,d,TI s with
 |some (.slice elem),.slice (some ⟨b,o,none⟩) n _,some m=>match P.info? elem with
  |some i=>match cellsOf a i.size (Nat.min m n) s with
   |some cs=>match oL a b o cs with
    |some a'=>some (.act (goInt (Nat.min m n)) a')
    |none=>none
   |none=>none
  |none=>none
 |_,_,_=>none
noncomputable def rV:List Value→Option (List UInt8)
 | []=>some []
 | .int .u8 (.ofNat n) :: l=>match Nat.blt n 256,rV l with
  |true,some r=>some (UInt8.ofNat n :: r)
  |_,_=>none
 |_=>none
noncomputable def sM (P:Program) (a:A) (src dst:TypeId) (x:Value):Option R1:=
 match P.underlying src,P.underlying dst,x with
 |some .string,some (.slice e),.string s=>match P.underlying e,a.room with
  |some (.int .u8),true=>some (.act (.slice (some ⟨a.next,0,none⟩) s.size 1) (a.new (.row (s.data.map fun b=>Value.int .u8 b.toNat).toList e 2)))
  |_,_=>none
 |some (.slice e),some .string,.slice (some ⟨b,o,none⟩) n _=>match P.underlying e,a.get b with
  |some (.int .u8),some (.row cs _ _)=>match take? cs o n with
   |some vs=>match rV vs with
    |some bs=>some (.rd (.string ⟨bs.toArray⟩) (facts b o vs))
    |none=>none
   |none=>none
  |_,_=>none
 |_,_,_=>none
noncomputable def WW (P:Program) (t:TypeId) (x y:Value):Option Bool:=
 match P.underlying t,x,y with
 |some (.pointer _),.pointer (some _),.pointer none=>some false
 |some (.pointer _),.pointer none,.pointer (some _)=>some false
 |some (.slice _),.slice (some _) _ _,.slice none _ _=>some false
 |some (.slice _),.slice none _ _,.slice (some _) _ _=>some false
 |_,_,_=>none
def ZQ:Op→Bool
 | .select .. =>true
 |_=>false
noncomputable def sJ {β:Type} (n:Nat) (k:Nat→β):β:=
 match n with
 |0=>k 0
 |m+1=>k (m+1)
noncomputable def J8 {β:Type} (n:Int) (k:Int→β):β:=
 match n with
 | .ofNat m=>sJ m fun m=>k (.ofNat m)
 | .negSucc m=>sJ m fun m=>k (.negSucc m)
noncomputable def uO {β:Type} (l:List UInt8):(List UInt8→β)→β:=List.rec (motive:=fun _=>(List UInt8→β)→β) (fun k=>k []) (fun b _ r k=>sJ b.toNat fun n=>r fun l=>k (UInt8.ofNat n :: l)) l
noncomputable def D4 (v:Value):Option R1:=
 match v with
 | .int k n=>J8 n fun n=>some (.pu (.int k n))
 | .bool true=>some (.pu (.bool true))
 | .bool false=>some (.pu (.bool false))
 | .string ⟨⟨l⟩⟩=>uO l fun l=>some (.pu (.string ⟨⟨l⟩⟩))
 |v=>some (.pu v)
noncomputable def fO (P:Program) (o:Oper) (t:Fr):Option R1:=
 match o.op.operands.toList.all (fun x=>flat (ev t x))&&!ZQ o.op with
 |true=>match jC P (execOp (ev t) o) with
  |some (.value v)=>match flat v with
   |true=>D4 v
   |false=>none
  |_=>none
 |false=>none
noncomputable def orElse (x:Option R1) (y:Unit→Option R1):Option R1:=
 match x with
 |some r=>some r
 |none=>y ()
noncomputable def rB (P:Program) (a:A) (fn:Func) (args:List Value):Option R1:=
 match fn.body,fn.resultTypes[0]?,args with
 |none,some ty,[.int .i64 (.ofNat n)]=>match P.underlying ty with
  |some (.slice elem)=>match P.info? elem,Nat.ble n 1073741824 with
   |some i,true=>match Nat.beq i.size 1,newRow a [] elem 1 with
    |true,some (b,a')=>some (.act (.slice (some ⟨b,0,none⟩) n 1) a')
    |_,_=>none
   |_,_=>none
  |_=>none
 |_,_,_=>none
noncomputable def lD (P:Program) (a:A) (pt:TypeId) (p l:Value):Option R1:=
 match p,l with
 | .pointer (some ⟨b,0,none⟩),.int .i64 (.ofNat n)=>match a.get b,P.underlying pt with
  |some (.row cs e m),some (.pointer u)=>match Nat.beq e u&&Nat.ble 1 n&&Nat.ble n 1073741824&&Nat.blt b 1000000&&Nat.beq (P.cellsOf e) 1&&!Nat.beq m 2,take? cs 0 n with
   |true,some vs=>match rV vs with
    |some bs=>some (.act (.string ⟨bs.toArray⟩) (a.put b (some (.row cs e 2))))
    |none=>none
   |_,_=>none
  |_,_=>none
 |_,_=>none
noncomputable def KI (P:Program) (o:Oper) (t:Fr) (a:A) (c:Call):Option R1:=
 match c.callee with
 | .value f=>match ev t f with
  | .func (.func g) first captured=>match P.funcs[g]? with
   |some fn=>match fn.body,fn.name== "runtime.NumGoroutine" with
    |some _,false=>some (.cl g (first.toList++c.args.toList.map (ev t)++captured.toList))
    |_,_=>match fn.name== "internal/bytealg.MakeNoZero" &&fn.origin== "" with
     |true=>rB P a fn (first.toList++c.args.toList.map (ev t)++captured.toList)
     |false=>fO P o t
   |none=>none
  |_=>none
 | .builtin b=>match b,c.argTypes.toList,c.args.toList with
  | .append,[ty,tx],[s,x]=>wT P a ty tx (ev t s) (ev t x)
  | .copy,ty :: _,[d,s]=>JJ P a ty (ev t d) (ev t s)
  | .len,ty :: _,[x]=>match ev t x,P.underlying ty with
   | .slice (some _) n _,some (.slice _)=>some (.pu (goInt n))
   |_,_=>fO P o t
  | .cap,ty :: _,[x]=>match ev t x,P.underlying ty with
   | .slice (some _) n k,some (.slice _)=>match Nat.beq (k % 2) 0 with
    |true=>some (.pu (goInt (k / 2:Nat)))
    |false=>none
   |_,_=>fO P o t
  | .unsafeSliceData,_,[x]=>match ev t x with
   | .slice (some ⟨b,o,none⟩) (n+1) _=>some (.pu (.pointer (some ⟨b,o,none⟩)))
   |_=>fO P o t
  | .unsafeString,[pt,_],[p,l]=>match ev t p with
   | .pointer none=>fO P o t
   |_=>lD P a pt (ev t p) (ev t l)
  |_,_,_=>fO P o t
 |_=>none
noncomputable def KH (a:A) (x:Value):Option R1:=
 match x with
 | .pointer (some ⟨b,0,none⟩)=>match a.get b with
  |some (.obj (.stringIter s pos))=>match Nat.blt pos s.size&&Nat.blt b 1000000 with
   |true=>some (.act (.tuple #[.bool true,goInt pos,.int .i32 (Utf8.decode s pos).1]) (a.put b (some (.obj (.stringIter s (pos+(Utf8.decode s pos).2))))))
   |false=>match Nat.blt pos s.size with
    |true=>none
    |false=>some (.act (.tuple #[.bool false]) a)
  |_=>none
 |_=>none
noncomputable def newObj (a:A) (o:Obj) (v:Nat→Value):Option R1:=
 match a.room with
 |true=>some (.act (v a.next) (a.new (.obj o)))
 |false=>none
noncomputable def rC (b:BinOp) (k:IntKind) (x y:Int):Option Value:=
 match b with
 | .add=>some (.int k (k.wrap (x+y)))
 | .sub=>some (.int k (k.wrap (x - y)))
 | .mul=>some (.int k (k.wrap (x*y)))
 | .eql=>some (.bool (x==y))
 | .neq=>some (.bool (x != y))
 | .lss=>some (.bool (x<y))
 | .leq=>some (.bool (x≤y))
 | .gtr=>some (.bool (x > y))
 | .geq=>some (.bool (x≥y))
 |_=>none
noncomputable def VI (P:Program) (o:Oper) (t:Fr) (b:BinOp) (ty:TypeId) (x y:Value):Option R1:=
 match x,y with
 | .int k n,.int l m=>match k==l,rC b k n m with
  |true,some v=>D4 v
  |_,_=>fO P o t
 |_,_=>orElse (fO P o t) fun _=>match b with
  | .eql=>match WW P ty x y with
   |some r=>some (.pu (.bool r))
   |none=>none
  | .neq=>match WW P ty x y with
   |some r=>some (.pu (.bool (!r)))
   |none=>none
  |_=>none
noncomputable def SR (c x y:Value):Option R1:=
 match c with
 | .bool true=>some (.pu x)
 | .bool false=>some (.pu y)
 |_=>none
noncomputable def Q7 (P:Program) (o:Oper) (t:Fr) (a:A) (src dst:TypeId) (x:Value):Option R1:=
 match x with
 | .int .. =>fO P o t
 |_=>orElse (sM P a src dst x) fun _=>fO P o t
noncomputable def opSl (P:Program) (o:Oper) (t:Fr) (ty:TypeId) (x:Value) (lo hi mx:Option Value):Option R1:=
 match x with
 | .string _=>fO P o t
 |_=>orElse (D1 P ty x lo hi mx) fun _=>fO P o t
noncomputable def YT (l:List UInt8):Nat→Option UInt8:=List.rec (motive:=fun _=>Nat→Option UInt8) (fun _=>none) (fun b _ k n=>Nat.rec (some b) (fun m _=>k m) n) l
noncomputable def KS (P:Program) (o:Oper) (t:Fr) (ty:TypeId) (x i:Value):Option R1:=
 match x,i with
 | .string ⟨⟨l⟩⟩,.int _ (.ofNat j)=>match P.underlying ty,YT l j with
  |some .string,some b=>sJ b.toNat fun n=>some (.pu (.int .u8 (.ofNat n)))
  |_,_=>fO P o t
 |_,_=>fO P o t
noncomputable def KQ (P:Program) (o:Oper) (t:Fr) (ty:TypeId) (x:Value):Option R1:=
 orElse (fO P o t) fun _=>match x,P.underlying ty with
  | .pointer (some p),some (.pointer _)=>some (.pu (.iface ty (.pointer (some p))))
  |_,_=>none
noncomputable def RO (P:Program) (a:A) (ty:TypeId) (s:Value):Option R1:=
 match s,P.underlying ty with
 | .int _ (.ofNat n),some (.chan _ elem)=>match P.info? elem with
  |some i=>match Nat.ble n 1024&&Nat.ble i.bytes 65536 with
   |true=>newObj a (.chan n #[] false 0 0 false) (fun b=> .chan (some b))
   |false=>none
  |none=>none
 |_,_=>none
noncomputable def LX (P:Program) (a:A) (ty:TypeId) (x:Value):Option R1:=
 match P.underlying ty,x with
 |some .string,.string s=>newObj a (.stringIter s 0) (fun b=> .pointer (some ⟨b,0,none⟩))
 |_,_=>none
def QH (xType:TypeId) (es:Array MapEntry) (index:Value) (commaOk:Bool):Sem Value:=do
 let .map key elem ← underlying xType|stuck "Lookup: map type expected"
 Instr.checkKey es.isEmpty 10000 key index
 let (v,ok) ← match ← Instr.findKey key index es.toList with
  |some (_,v)=>pure (v,true)
  |none=>pure (← zeroValue elem,false)
 pure (if commaOk then .tuple #[v,.bool ok] else v)
def JL (mapType:TypeId) (es:Array MapEntry) (key:Value):Sem Value:=do
 let .map keyType _ ← underlying mapType|stuck "MapUpdate: map type expected"
 Instr.checkKey false 10000 keyType key
 match ← Instr.findKey keyType key es.toList with
 |some _=>pure (.bool false)
 |none=>pure (.bool true)
noncomputable def wS (P:Program) (a:A) (ty:TypeId) (x i:Value) (ok:Bool):Option R1:=
 match x with
 | .map (some b)=>match a.get b,flat i with
  |some (.obj (.map es _)),true=>match jC P (QH ty es i ok) with
   |some v=>match flat v with
    |true=>some (.act v a)
    |false=>none
   |none=>none
  |_,_=>none
 |_=>none
noncomputable def xE (P:Program) (a:A) (ty:TypeId) (x i v:Value):Option R1:=
 match x with
 | .map (some b)=>match a.get b,flat i&&flat v&&Nat.blt b 1000000 with
  |some (.obj (.map es clock)),true=>match jC P (JL ty es i) with
   |some (.bool true)=>some (.act undef (a.put b (some (.obj (.map (es.push { key:=i,val:=v,born:=clock }) (clock+1))))))
   |_=>none
  |_,_=>none
 |_=>none
noncomputable def disp:Op→Program→Oper→Fr→A→Option R1
 | .move x=>fun _ _ t _=>some (.pu (ev t x))
 | .assign x=>fun _ _ t _=>some (.pu (ev t x))
 | .pick c x y=>fun _ _ t _=>SR (ev t c) (ev t x) (ev t y)
 | .alloc e=>fun P _ _ a=>CE P a e
 | .box e x=>fun _ _ t a=>E4 a e (ev t x)
 | .build ty ps=>fun P _ t _=>CB P ty (ps.toList.map fun p=>(p.1,ev t p.2))
 | .buildSlice ty n ps=>fun P _ t a=>nC P a ty n (ps.toList.map fun p=>(p.1,ev t p.2))
 | .load ty x=>fun P _ t a=>xC P a ty (ev t x)
 | .store ty x v=>fun P _ t a=>DK P a ty (ev t x) (ev t v)
 | .nilCheck x=>fun _ _ t _=>TO (ev t x)
 | .binOp b ty x y _=>fun P o t _=>VI P o t b ty (ev t x) (ev t y)
 | .convert src dst x=>fun P o t a=>Q7 P o t a src dst (ev t x)
 | .makeSlice ty l c=>fun P _ t a=>nW P a ty (ev t l) (ev t c)
 | .slice ty x lo hi mx=>fun P o t _=>opSl P o t ty (ev t x) (lo.map (ev t)) (hi.map (ev t)) (mx.map (ev t))
 | .fieldAddr ty x f=>fun P _ t _=>oS P ty (ev t x) f
 | .indexAddr ty x i=>fun P _ t _=>oC P ty (ev t x) (ev t i)
 | .extract x i=>fun _ _ t _=>sL (ev t x) i
 | .index ty x i=>fun P o t _=>KS P o t ty (ev t x) (ev t i)
 | .makeFunc fn f c=>fun _ _ t _=>some (.pu (.func fn (f.map (ev t)) (c.map (ev t))))
 | .makeInterface ty x=>fun P o t _=>KQ P o t ty (ev t x)
 | .makeMap ty none=>fun _ _ _ a=>newObj a (.map #[] 0) (fun b=> .map (some b))
 | .makeChan ty s=>fun P _ t a=>RO P a ty (ev t s)
 | .range ty x=>fun P _ t a=>LX P a ty (ev t x)
 | .next x true=>fun _ _ t a=>KH a (ev t x)
 | .lookup ty x i ok=>fun P _ t a=>wS P a ty (ev t x) (ev t i) ok
 | .mapUpdate ty x i v=>fun P _ t a=>xE P a ty (ev t x) (ev t i) (ev t v)
 | .call c=>fun P o t a=>KI P o t a c
 |_=>fun P o t _=>fO P o t
noncomputable def op (P:Program) (o:Oper) (t:Fr) (a:A):Option R1:=disp o.op P o t a
noncomputable def wanted (ops:Array Oper) (o:Oper) (t:Fr):Bool:=
 match o.guard with
 |none=>true
 |some (j,want)=>match (ops[j]?).bind (·.dst) with
  |some d=>match iF t d with
   | .bool b=>b==want
   |_=>false
  |none=>false
noncomputable def argsIn (t:Fr) (l:List Value):Fr:=
 List.rec (motive:=fun _=>Nat→Fr→Fr) (fun _ t=>t) (fun v _ k i t=>k (i+1) (fM t i v)) l 0 t
noncomputable def kF (n:Nat) (args:List Value):Fr:=argsIn (fresh 12 n) args
inductive Ex where
 |normal
 |exit (id:Nat)
 |ret
abbrev Callee:=FuncId→List Value→A→Option (Value × A)
abbrev K:=Fr→A→Option (Fr × A)
noncomputable def step1 (P:Program) (call:Callee) (o:Oper) (k:K) (t:Fr) (a:A) (r:Option R1):Option (Fr × A):=
 match r with
 |some (.pu v)=>k (pL t o.dst v) a
 |some (.rd v _)=>k (pL t o.dst v) a
 |some (.act v a')=>k (pL t o.dst v) a'
 |some (.cl f args)=>match call f args a with
  |some (v,a')=>k (pL t o.dst v) a'
  |none=>none
 |none=>none
noncomputable def IG (P:Program) (call:Callee) (all:Array Oper) (l:List Oper):K:=
 List.rec (motive:=fun _=>K) (fun t a=>some (t,a)) (fun o _ k t a=>bif wanted all o t then step1 P call o k t a (op P o t a) else k (pL t o.dst undef) a) l
def fnEq:Fn→Fn→Bool
 | .func f,.func g=>Nat.beq f g
 | .yield f,.yield g=>Nat.beq f g
 |_,_=>false
def WC:Option Addr→Option Addr→Bool
 |none,none=>true
 |some ⟨b,o,none⟩,some ⟨c,p,none⟩=>Nat.beq b c&&Nat.beq o p
 |some ⟨b,o,some x⟩,some ⟨c,p,some y⟩=>Nat.beq b c&&Nat.beq o p&&Nat.beq x y
 |_,_=>false
def V7:Option Nat→Option Nat→Bool
 |none,none=>true
 |some b,some c=>Nat.beq b c
 |_,_=>false
def sQ:Int→Int→Bool
 | .ofNat a,.ofNat b=>Nat.beq a b
 | .negSucc a,.negSucc b=>Nat.beq a b
 |_,_=>false
mutual
def T5:Value→Value→Bool
 | .bool a,.bool b=>a==b
 | .int k a,.int l b=>k==l&&sQ a b
 | .string a,.string b=>a.data.toList==b.data.toList
 | .pointer a,.pointer b=>WC a b
 | .slice a n k,.slice b m l=>WC a b&&Nat.beq n m&&Nat.beq k l
 | .map a,.map b=>V7 a b
 | .chan a,.chan b=>V7 a b
 | .func f a b,.func g c d=>fnEq f g&&PO a c&&PO b d
 | .nilFunc,.nilFunc=>true
 | .nilIface,.nilIface=>true
 | .iface t v,.iface u w=>Nat.beq t u&&T5 v w
 | .agg a,.agg b=>PO a b
 | .tuple a,.tuple b=>PO a b
 |_,_=>false
def PO:Array Value→Array Value→Bool
 |⟨a⟩,⟨b⟩=>tV a b
def tV:List Value→List Value→Bool
 | [],[]=>true
 |v :: a,w :: b=>T5 v w&&tV a b
 |_,_=>false
end
def T7:Option Addr→Bool
 |some ⟨_,_,some _⟩=>false
 |_=>true
mutual
def nL:Value→Bool
 | .pointer a=>T7 a
 | .func _ ⟨a⟩ ⟨b⟩=>kZ a&&kZ b
 | .iface _ v=>nL v
 | .agg ⟨c⟩=>kZ c
 | .tuple ⟨c⟩=>kZ c
 |_=>true
def kZ:List Value→Bool
 | []=>true
 |v :: l=>nL v&&kZ l
end
def MP:List MapEntry→List MapEntry→Bool
 | [],[]=>true
 |⟨k,v,b⟩ :: l,⟨k',v',b'⟩ :: m=>T5 k k'&&T5 v v'&&Nat.beq b b'&&MP l m
 |_,_=>false
def aoEq:AO→AO→Bool
 | .row a e m,.row b f n=>tV a b&&Nat.beq e f&&Nat.beq m n
 | .obj (.map ⟨es⟩ c),.obj (.map ⟨fs⟩ d)=>MP es fs&&Nat.beq c d
 | .obj (.chan n ⟨[]⟩ false 0 0 false),.obj (.chan m ⟨[]⟩ false 0 0 false)=>Nat.beq n m
 | .obj (.stringIter s p),.obj (.stringIter r q)=>s.data.toList==r.data.toList&&Nat.beq p q
 |_,_=>false
def W9:Option AO→Option AO→Bool
 |none,none=>true
 |some a,some b=>aoEq a b
 |_,_=>false
def teq:T→T→Bool
 | .nil,.nil=>true
 | .node v l r,.node w m s=>W9 v w&&teq l m&&teq r s
 |_,_=>false
def I9:Fr→Fr→Bool
 | .nil,.nil=>true
 | .node v l r,.node w m s=>T5 v w&&I9 l m&&I9 r s
 |_,_=>false
def aEq (a b:A):Bool:=Nat.beq a.next b.next&&teq a.t b.t
noncomputable def AZ (a:A) (b o:Nat):Option Value:=
 match a.get b with
 |some (.row cs _ _)=>cs[o]?
 |_=>none
abbrev jZ:=List (Nat × Nat × Value)
noncomputable def held (a:A) (L:jZ):Bool:=L.all fun f=>match AZ a f.1 f.2.1 with
 |some w=>T5 w f.2.2&&nL f.2.2
 |none=>false
def kV (ops:Array Oper) (j k:Nat):Bool:=
 match ops[j]? with
 |some o=>o.after.any fun e=>Region.binds .any e&&Nat.beq e.on k
 |none=>false
noncomputable def KX (ops:Array Oper) (i:Nat) (a:A) (L:List (Nat × jZ)):Option (List (Nat × jZ)):=
 List.rec (motive:=fun _=>Option (List (Nat × jZ))) (some []) (fun x _ k=>bif held a x.2 then (match k with
  |some r=>some (x :: r)
  |none=>none) else bif kV ops i x.1 then k else none) L
def memN (i:Nat):List Nat→Bool
 | []=>false
 |j :: l=>Nat.beq i j || memN i l
noncomputable def bm (ops:Array Oper) (j:Nat):Nat:=
 match ops[j]? with
 |some o=>o.after.toList.foldr (fun e k=>bif Region.binds .any e then Nat.lor k (2 ^ e.on) else k) 0
 |none=>0
def within (b m:Nat):Bool:=Nat.beq (Nat.land b m) b
noncomputable def PG (ops:Array Oper) (m:Nat):List Nat:=(List.range ops.size).filter fun i=>Nat.beq (Nat.land m (2 ^ i)) 0&&within (bm ops i) m
def clear (ops:Array Oper) (oi:Oper) (i j:Nat):Bool:=j==i || match ops[j]? with
 |some oj=>oj.after.any (fun e=>Region.binds .any e&&e.on==i) || oi.apart ops oj
 |none=>true
noncomputable def am (ops:Array Oper) (i:Nat):Nat:=
 match ops[i]? with
 |some oi=>(List.range ops.size).foldr (fun j k=>bif clear ops oi i j then Nat.lor k (2 ^ j) else k) 0
 |none=>0
noncomputable def FD (ops:Array Oper) (m i:Nat):Bool:=
 match ops[i]? with
 |some _=>within (2 ^ ops.size - 1) (Nat.lor m (am ops i))
 |none=>false
noncomputable def kC (P:Program) (ops:Array Oper) (bad:List Nat) (m:Nat) (t:Fr) (a:A):List Nat→Option (Nat × Oper × Value × jZ)
 | []=>none
 |i :: is=>match ops[i]? with
  |none=>none
  |some o=>match FD ops m i with
   |false=>kC P ops bad m t a is
   |true=>match wanted ops o t with
    |false=>some (i,o,undef,[])
    |true=>match op P o t a with
     |some (.pu v)=>some (i,o,v,[])
     |some (.rd v fs)=>match memN i bad with
      |true=>kC P ops bad m t a is
      |false=>some (i,o,v,fs)
     |_=>kC P ops bad m t a is
noncomputable def rX (step:Nat→Option (Fr × A)):List Nat→Option (Fr × A)
 | []=>none
 | [i]=>step i
 |i :: is=>match step i,rX step is with
  |some (t,a),some (t',a')=>match I9 t t'&&aEq a a' with
   |true=>some (t,a)
   |false=>none
  |_,_=>none
noncomputable def CA (P:Program) (call:Callee) (ops:Array Oper) (base i:Nat) (t:Fr) (a:A):Option (Fr × A):=
 match ops[i]? with
 |none=>none
 |some o=>match wanted ops o t with
  |false=>some (pL t o.dst undef,a)
  |true=>match op P o t ⟨base+i,a.t⟩ with
   |some (.pu v)=>some (pL t o.dst v,a)
   |some (.rd v _)=>some (pL t o.dst v,a)
   |some (.act v a')=>some (pL t o.dst v,⟨a.next,a'.t⟩)
   |some (.cl f args)=>match call f args a with
    |some (v,a')=>some (pL t o.dst v,a')
    |none=>none
   |none=>none
noncomputable def ND (P:Program) (call:Callee) (ops:Array Oper) (base:Nat) (bad:List Nat):Nat→Nat→Fr→A→List (Nat × jZ)→Option (Fr × A)
 |0,m,t,a,L=>match PG ops m with
  | []=>some (t,a)
  |_=>none
 |n+1,m,t,a,L=>match PG ops m with
  | []=>some (t,a)
  |rs=>match kC P ops bad m t a rs with
   |some (i,o,v,fs)=>ND P call ops base bad n (Nat.lor m (2 ^ i)) (pL t o.dst v) a ((i,fs) :: L)
   |none=>rX (fun i=>match CA P call ops base i t a with
    |some (t',a')=>match KX ops i a' L with
     |some L'=>ND P call ops base bad n (Nat.lor m (2 ^ i)) t' a' L'
     |none=>none
    |none=>none) rs
noncomputable def SF (P:Program) (call:Callee) (ops:Array Oper) (base:Nat):Nat→Nat→Fr→A→List (Nat × jZ)→List Nat
 |0,_,_,_,_=> []
 |n+1,m,t,a,L=>match PG ops m with
  | []=> []
  |r :: rs=>match kC P ops [] m t a (r :: rs) with
   |some (i,o,v,fs)=>SF P call ops base n (Nat.lor m (2 ^ i)) (pL t o.dst v) a (match fs with
    | []=>L
    |_=>(i,fs) :: L)
   |none=>match CA P call ops base r t a with
    |some (t',a')=>(L.filter fun x=>!kV ops r x.1&&!held a' x.2).map (fun x=>x.1)++SF P call ops base n (Nat.lor m (2 ^ r)) t' a' (L.filter fun x=>!kV ops r x.1)
    |none=> []
def QM (ops:Array Oper):Bool:=ops.all fun o=>match o.op with
 | .store .. =>false
 | .call _=>false
 |_=>true
noncomputable def L8 (P:Program) (call:Callee) (ops:Array Oper) (t:Fr) (a:A):Option (Fr × A):=
 match Region.noSelect ops with
 |true=>ND P call ops a.next (bif QM ops then [] else SF P call ops a.next ops.size 0 t ⟨a.next+ops.size,a.t⟩ []) ops.size 0 t ⟨a.next+ops.size,a.t⟩ []
 |false=>none
abbrev C:=Fr→A→Option (Ex × Fr × A)
noncomputable def rounds (body:C) (n:Nat):C:=
 Nat.rec (motive:=fun _=>C) (fun _ _=>none) (fun _ k t a=>match body t a with
  |some (.normal,t',a')=>k t' a'
  |r=>r) n
noncomputable def nG (P:Program) (call:Callee) (ops:Array Oper) (draw:Bool):C:=fun t a=>
 match (bif draw then L8 P call ops t a else IG P call ops ops.toList t a) with
 |some (t',a')=>some (.normal,t',a')
 |none=>none
def wW (x y:C):C:=fun t a=>
 match x t a with
 |some (.normal,t',a')=>y t' a'
 |r=>r
noncomputable def z7 (c:Operand) (x y:C):C:=fun t a=>
 match ev t c with
 | .bool true=>x t a
 | .bool false=>y t a
 |_=>none
def rS (id:Nat) (x:C):C:=fun t a=>
 match x t a with
 |some (.exit id',t',a')=>match Nat.beq id' id with
  |true=>some (.normal,t',a')
  |false=>some (.exit id',t',a')
 |r=>r
noncomputable def code (P:Program) (call:Callee) (lf:Nat) (c:Code):C:=
 Code.rec (motive:=fun _=>C) (fun t a=>some (.normal,t,a)) (fun _ ops draw=>nG P call ops draw) (fun _ _ x y=>wW x y) (fun c _ _ x y=>z7 c x y) (fun id _ x=>rS id x)
  (fun _ x=>rounds x lf) (fun _ _ _ _ _ _ _ _=>none) (fun id t a=>some (.exit id,t,a)) (fun _ _ _ _=>none) (fun _ t a=>some (.normal,t,a)) (fun _ _ _=>none) (fun t a=>some (.ret,t,a)) (fun _ _ _=>none) c
noncomputable def iB (P:Program) (t:Fr) (a:A):List ResultVar→Option (List Value)
 | []=>some []
 | .tmp x :: l=>match iB P t a l with
  |some vs=>some (iF t x :: vs)
  |none=>none
 | .cell x ty :: l=>match xC P a ty (iF t x),iB P t a l with
  |some (.rd v _),some vs=>some (v :: vs)
  |_,_=>none
def uY:List Value→Value
 | [v]=>v
 |vs=> .tuple vs.toArray
noncomputable def r9 (k:FuncId) (y:TypeId):Callee:=fun f args a=>
 match Nat.beq f k,args with
 |true,[.pointer (some ⟨b,0,none⟩)]=>match a.get b with
  |some (.row [.pointer none,u] e 0)=>match Nat.beq e y&&Nat.blt b 1000000 with
   |true=>some (.tuple #[],a.put b (some (.row [.pointer (some ⟨b,0,none⟩),u] e 0)))
   |false=>none
  |some (.row [.pointer (some ⟨c,0,none⟩),u] e 0)=>match Nat.beq b c with
   |true=>some (.tuple #[],a)
   |false=>none
  |_=>none
 |_,_=>none
noncomputable def SI (ld st sw cas ad:FuncId):Callee:=fun f args a=>
 match args with
 | .pointer (some ⟨b,o,none⟩) :: rest=>match Nat.beq f ld || Nat.beq f st || Nat.beq f sw || Nat.beq f cas || Nat.beq f ad with
  |true=>match AZ a b o with
   |some (.int .u32 x)=>match rest with
    | []=>match Nat.beq f ld with
     |true=>some (.int .u32 x,a)
     |false=>none
    | [.int .u32 y]=>match Nat.beq f st,Nat.beq f sw,Nat.beq f ad with
     |true,_,_=>match oL a b o [.int .u32 y] with
      |some a'=>some (.tuple #[],a')
      |none=>none
     |_,true,_=>match oL a b o [.int .u32 y] with
      |some a'=>some (.int .u32 x,a')
      |none=>none
     |_,_,true=>match oL a b o [.int .u32 ((x+y) % 4294967296)] with
      |some a'=>some (.int .u32 ((x+y) % 4294967296),a')
      |none=>none
     |_,_,_=>none
    | [.int .u32 y,.int .u32 z]=>match Nat.beq f cas,sQ x y with
     |true,true=>match oL a b o [.int .u32 z] with
      |some a'=>some (.bool true,a')
      |none=>none
     |_,_=>none
    |_=>none
   |_=>none
  |false=>none
 |_=>none
noncomputable def or (I J:Callee):Callee:=fun f args a=>
 match I f args a with
 |some r=>some r
 |none=>J f args a
def N7 (G:Nat):Operand→Bool
 | .global g=>Nat.blt g G
 | .const v=>flat v
 |_=>true
def codeOk (G:Nat):Code→Bool
 | .region _ ops _=>ops.all fun o=>o.op.operands.all (N7 G)
 | .seq x y=>codeOk G x&&codeOk G y
 | .cond c x y=>N7 G c&&codeOk G x&&codeOk G y
 | .block _ x=>codeOk G x
 | .loop x=>codeOk G x
 |_=>true
noncomputable def leave (P:Program) (fn:Func) (r:Option (Ex × Fr × A)):Option (Value × A):=
 match r with
 |some (.exit _,_,_)=>none
 |some (_,t,a')=>match iB P t a' fn.results.toList with
  |some vs=>some (uY vs,a')
  |none=>none
 |none=>none
noncomputable def RN (G:Nat) (fn:Func):Bool:=
 match fn.body with
 |some c=>match codeOk G c with
  |true=>Nat.ble fn.ntmps 2000
  |false=>false
 |none=>true
noncomputable def zS (G:Nat) (l:List Func):Bool:=List.rec (motive:=fun _=>Bool) true (fun fn _ k=>match RN G fn with
 |true=>k
 |false=>false) l
noncomputable def gL (P:Program) (G lf:Nat) (call:Callee) (f:FuncId) (args:List Value) (a:A):Option (Value × A):=
 match P.funcs[f]? with
 |none=>none
 |some fn=>match fn.body with
  |none=>none
  |some c=>match Nat.ble args.length fn.ntmps with
   |true=>leave P fn (code P call lf c (kF fn.ntmps args) a)
   |false=>none
noncomputable def run (P:Program) (G:Nat) (I:Callee) (lf:Nat) (n:Nat):Callee:=
 Nat.rec (motive:=fun _=>Callee) (fun _ _ _=>none) (fun _ k f args a=>match I f args a with
  |some r=>some r
  |none=>gL P G lf k f args a) n
structure Rn where
 bI:Nat→Option Nat
 cap:Nat→Nat
def cJ (ρ:Rn) (b k:Nat):Nat:=if k % 2=0 then k / 2 else ρ.cap b - k / 2
mutual
inductive VR (ρ:Rn):Value→Value→Prop
 |flat {v:Value} (h:flat v=true):VR ρ v v
 |ptr {b c o:Nat} (h:ρ.bI b=some c):VR ρ (.pointer (some ⟨b,o,none⟩)) (.pointer (some ⟨c,o,none⟩))
 |fU {b o x:Nat} {a:Addr} :VR ρ (.pointer (some ⟨b,o,some x⟩)) (.pointer (some a))
 |slice {b c o n k:Nat} (h:ρ.bI b=some c) (hn:n≤cJ ρ b k):VR ρ (.slice (some ⟨b,o,none⟩) n k) (.slice (some ⟨c,o,none⟩) n (cJ ρ b k))
 |map {b c:Nat} (h:ρ.bI b=some c):VR ρ (.map (some b)) (.map (some c))
 |chan {b c:Nat} (h:ρ.bI b=some c):VR ρ (.chan (some b)) (.chan (some c))
 |func {fn:Fn} {f g c d:Array Value} (hf:LR ρ f.toList g.toList) (hc:LR ρ c.toList d.toList):VR ρ (.func fn f c) (.func fn g d)
 |iface {t:TypeId} {v w:Value} (h:VR ρ v w):VR ρ (.iface t v) (.iface t w)
 |agg {a b:Array Value} (h:LR ρ a.toList b.toList):VR ρ (.agg a) (.agg b)
 |tuple {a b:Array Value} (h:LR ρ a.toList b.toList):VR ρ (.tuple a) (.tuple b)
inductive LR (ρ:Rn):List Value→List Value→Prop
 |nil:LR ρ [] []
 |cons {v w:Value} {l m:List Value} (h:VR ρ v w) (ht:LR ρ l m):LR ρ (v :: l) (w :: m)
end
def Rn.le (ρ σ:Rn):Prop:=∀ b c,ρ.bI b=some c→σ.bI b=some c∧σ.cap b=ρ.cap b
theorem UY {ρ σ:Rn} {b k:Nat} (h:σ.cap b=ρ.cap b):cJ σ b k=cJ ρ b k:=by unfold cJ;rw [h]
mutual
theorem VR.mono {ρ σ:Rn} (hl:ρ.le σ) {v w:Value} :VR ρ v w→VR σ v w
 | .flat h=> .flat h
 | .ptr h=> .ptr (hl _ _ h).1
 | .fU=> .fU
 | .slice (b:=b) (k:=k) h hn=>by
  have he:=UY (k:=k) (hl _ _ h).2
  rw [← he] at hn ⊢
  exact .slice (hl _ _ h).1 hn
 | .map h=> .map (hl _ _ h).1
 | .chan h=> .chan (hl _ _ h).1
 | .func hf hc=> .func (LR.mono hl hf) (LR.mono hl hc)
 | .iface h=> .iface (VR.mono hl h)
 | .agg h=> .agg (LR.mono hl h)
 | .tuple h=> .tuple (LR.mono hl h)
theorem LR.mono {ρ σ:Rn} (hl:ρ.le σ) {l m:List Value} :LR ρ l m→LR σ l m
 | .nil=> .nil
 | .cons h ht=> .cons (VR.mono hl h) (LR.mono hl ht)
end
theorem jH (a:Array Value):rF a=fC a.toList:=by cases a;simp [rF]
mutual
theorem VR.bW {ρ:Rn} {v w:Value} :VR ρ v w→flat v=true→w=v
 | .flat _,_=>rfl
 | .ptr h,hf=>by simp [Abs.flat] at hf
 | .fU,hf=>by simp [Abs.flat] at hf
 | .slice h hn,hf=>by simp [Abs.flat] at hf
 | .map h,hf=>by simp [Abs.flat] at hf
 | .chan h,hf=>by simp [Abs.flat] at hf
 | .func (f:=f) (g:=g) (c:=c) (d:=d) h1 h2,hf=>by
  simp only [Abs.flat,Bool.and_eq_true,jH] at hf
  have e1:=LR.bW h1 hf.1.2
  have e2:=LR.bW h2 hf.2
  rw [Array.toList_inj.1 e1,Array.toList_inj.1 e2]
 | .iface h,hf=>by
  simp only [Abs.flat] at hf
  rw [VR.bW h hf]
 | .agg h,hf=>by
  simp only [Abs.flat,jH] at hf
  rw [Array.toList_inj.1 (LR.bW h hf)]
 | .tuple h,hf=>by
  simp only [Abs.flat,jH] at hf
  rw [Array.toList_inj.1 (LR.bW h hf)]
theorem LR.bW {ρ:Rn} {l m:List Value} :LR ρ l m→fC l=true→m=l
 | .nil,_=>rfl
 | .cons h ht,hf=>by
  simp only [fC,Bool.and_eq_true] at hf
  rw [VR.bW h hf.1,LR.bW ht hf.2]
end
theorem NK (c:Array Value):nL (.agg c)=kZ c.toList:=by cases c;simp [nL]
theorem EK (c:Array Value):nL (.tuple c)=kZ c.toList:=by cases c;simp [nL]
theorem II (f:Fn) (a b:Array Value):nL (.func f a b)=(kZ a.toList&&kZ b.toList):=by cases a;cases b;simp [nL]
mutual
theorem VR.uniq {ρ:Rn} {v w x:Value} :VR ρ v w→VR ρ v x→nL v=true→w=x
 | .flat h,h2,_=>(VR.bW h2 h).symm
 | .fU,h2,hs=>by simp [nL,T7] at hs
 | .ptr h,h2,_=>by
  cases h2 with
  |flat h=>simp [Abs.flat] at h
  |ptr h'=>rw [h] at h';cases h';rfl
 | .slice h hn,h2,_=>by
  cases h2 with
  |flat h=>simp [Abs.flat] at h
  |slice h' _=>rw [h] at h';cases h';rfl
 | .map h,h2,_=>by
  cases h2 with
  |flat h=>simp [Abs.flat] at h
  |map h'=>rw [h] at h';cases h';rfl
 | .chan h,h2,_=>by
  cases h2 with
  |flat h=>simp [Abs.flat] at h
  |chan h'=>rw [h] at h';cases h';rfl
 | .func hf hc,h2,hs=>by
  simp only [II,Bool.and_eq_true] at hs
  cases h2 with
  |flat h=>exact VR.bW (.func hf hc) h
  |func hf' hc'=>rw [Array.toList_inj.1 (LR.uniq hf hf' hs.1),Array.toList_inj.1 (LR.uniq hc hc' hs.2)]
 | .iface h,h2,hs=>by
  simp only [nL] at hs
  cases h2 with
  |flat h'=>exact VR.bW (.iface h) h'
  |iface h'=>rw [VR.uniq h h' hs]
 | .agg h,h2,hs=>by
  rw [NK] at hs
  cases h2 with
  |flat h'=>exact VR.bW (.agg h) h'
  |agg h'=>rw [Array.toList_inj.1 (LR.uniq h h' hs)]
 | .tuple h,h2,hs=>by
  rw [EK] at hs
  cases h2 with
  |flat h'=>exact VR.bW (.tuple h) h'
  |tuple h'=>rw [Array.toList_inj.1 (LR.uniq h h' hs)]
theorem LR.uniq {ρ:Rn} {l m n:List Value} :LR ρ l m→LR ρ l n→kZ l=true→m=n
 | .nil,h2,_=>by cases h2;rfl
 | .cons h ht,h2,hs=>by
  simp only [kZ,Bool.and_eq_true] at hs
  cases h2 with
  |cons h' ht'=>rw [VR.uniq h h' hs.1,LR.uniq ht ht' hs.2]
end
theorem LR.length {ρ:Rn} :∀ {l m:List Value},LR ρ l m→l.length=m.length
 |_,_,.nil=>rfl
 |_,_,.cons _ ht=>by simp [LR.length ht]
theorem LR.get {ρ:Rn} :∀ {l m:List Value},LR ρ l m→∀ {i:Nat} {v:Value},l[i]?=some v→∃ w,m[i]?=some w∧VR ρ v w
 |_,_,.nil,i,v,h=>by simp at h
 |_,_,.cons h ht,0,v,hv=>by
  simp at hv;subst hv
  exact ⟨_,by simp,h⟩
 |_,_,.cons h ht,i+1,v,hv=>by
  simp at hv
  simpa using LR.get ht hv
theorem LR.append {ρ:Rn} :∀ {l m p q:List Value},LR ρ l m→LR ρ p q→LR ρ (l++p) (m++q)
 |_,_,_,_,.nil,h=>h
 |_,_,_,_,.cons h ht,h2=> .cons h (LR.append ht h2)
theorem LR.flat {ρ:Rn} :∀ {l:List Value},fC l=true→LR ρ l l
 | [],_=> .nil
 |v :: l,h=>by
  simp only [fC,Bool.and_eq_true] at h
  exact .cons (.flat h.1) (LR.flat h.2)
theorem mG:∀ {l:List Value},fC l=true↔ ∀ v,v∈l→Abs.flat v=true
 | []=>by simp [fC]
 |v :: l=>by
  simp only [fC,Bool.and_eq_true,List.mem_cons,forall_eq_or_imp,mG (l:=l)]
theorem VR.undef {ρ:Rn} :VR ρ Go.undef Go.undef:= .flat rfl
theorem VR.YM {ρ:Rn} {a:Array Value} {w:Value} (h:VR ρ (.agg a) w):∃ b:Array Value,w= .agg b∧LR ρ a.toList b.toList:=by
 cases h with
 |flat h=>exact ⟨a,rfl,LR.flat (by simpa [Abs.flat,jH] using h)⟩
 |agg h=>exact ⟨_,rfl,h⟩
theorem VR.zZ {ρ:Rn} {a:Array Value} {w:Value} (h:VR ρ (.tuple a) w):∃ b:Array Value,w= .tuple b∧LR ρ a.toList b.toList:=by
 cases h with
 |flat h=>exact ⟨a,rfl,LR.flat (by simpa [Abs.flat,jH] using h)⟩
 |tuple h=>exact ⟨_,rfl,h⟩
theorem VR.gT {ρ:Rn} {b o:Nat} {w:Value} (h:VR ρ (.pointer (some ⟨b,o,none⟩)) w):∃ c,w= .pointer (some ⟨c,o,none⟩)∧ρ.bI b=some c:=by
 cases h with
 |flat h=>simp [Abs.flat] at h
 |ptr h=>exact ⟨_,rfl,h⟩
theorem VR.fL {ρ:Rn} {b o n k:Nat} {w:Value} (h:VR ρ (.slice (some ⟨b,o,none⟩) n k) w):∃ c,w= .slice (some ⟨c,o,none⟩) n (cJ ρ b k)∧ρ.bI b=some c∧n≤cJ ρ b k:=by
 cases h with
 |flat h=>simp [Abs.flat] at h
 |slice h hn=>exact ⟨_,rfl,h,hn⟩
theorem VR.u6 {ρ:Rn} {fn:Fn} {f c:Array Value} {w:Value} (h:VR ρ (.func fn f c) w):∃ g d:Array Value,w= .func fn g d∧LR ρ f.toList g.toList∧LR ρ c.toList d.toList:=by
 cases h with
 |flat h=>
  simp only [Abs.flat,Bool.and_eq_true,jH] at h
  exact ⟨f,c,rfl,LR.flat h.1.2,LR.flat h.2⟩
 |func h1 h2=>exact ⟨_,_,rfl,h1,h2⟩
theorem VR.eT {ρ:Rn} {k:IntKind} {n:Int} {w:Value} (h:VR ρ (.int k n) w):w= .int k n:=h.bW rfl
theorem VR.jR {ρ:Rn} {b:Bool} {w:Value} (h:VR ρ (.bool b) w):w= .bool b:=h.bW rfl
theorem VR.kW {ρ:Rn} {s:ByteArray} {w:Value} (h:VR ρ (.string s) w):w= .string s:=h.bW rfl
theorem VR.cells {ρ:Rn} {v w:Value} (h:VR ρ v w):LR ρ v.cells.toList w.cells.toList:=by
 cases h with
 |flat h=>
  cases v <;> first|(exact .cons (.flat h) .nil)|skip
  simp only [Abs.flat,jH] at h
  exact LR.flat h
 |agg h=>exact h
 |ptr h=>exact .cons (.ptr h) .nil
 |fU=>exact .cons .fU .nil
 |slice h hn=>exact .cons (.slice h hn) .nil
 |map h=>exact .cons (.map h) .nil
 |chan h=>exact .cons (.chan h) .nil
 |func h1 h2=>exact .cons (.func h1 h2) .nil
 |iface h=>exact .cons (.iface h) .nil
 |tuple h=>exact .cons (.tuple h) .nil
theorem VR.one {ρ:Rn} {v w:Value} (h:VR ρ v w):w.oneCell'=Abs.one v:=by
 cases h with
 |flat h=>cases v <;> rfl
 |_=>rfl
theorem dW (n:Nat):n=0∨(∃ m,n=2*m+1∧n % 2=1∧n / 2=m)∨∃ m,n=2*m+2∧n % 2=0∧n / 2 - 1=m∧n≠0:=by
 rcases Nat.eq_zero_or_pos n with h|h
 ·exact .inl h
 ·rcases Nat.mod_two_eq_zero_or_one n with h2|h2
  ·exact .inr (.inr ⟨n / 2 - 1,by omega,h2,rfl,by omega⟩)
  ·exact .inr (.inl ⟨n / 2,by omega,h2,rfl⟩)
section
variable (v:Option AO) (l r:T)
theorem T.iJ:(T.node v l r).get 0=v:=rfl
theorem T.jB (m:Nat):(T.node v l r).get (2*m+1)=l.get m:=by
 show (Bool.rec (l.get (Nat.div (2*m) 2)) (r.get (Nat.div (2*m) 2)) (Nat.beq (Nat.mod (2*m) 2) 1):Option AO)=_
 have h1:Nat.beq (Nat.mod (2*m) 2) 1=false:=by
  have e:Nat.mod (2*m) 2=0:=by show (2*m) % 2=_;omega
  rw [e];rfl
 have h2:Nat.div (2*m) 2=m:=by show (2*m) / 2=m;omega
 rw [h1,h2]
theorem T.gN (m:Nat):(T.node v l r).get (2*m+2)=r.get m:=by
 show (Bool.rec (l.get (Nat.div (2*m+1) 2)) (r.get (Nat.div (2*m+1) 2)) (Nat.beq (Nat.mod (2*m+1) 2) 1):Option AO)=_
 have h1:Nat.beq (Nat.mod (2*m+1) 2) 1=true:=by
  have e:Nat.mod (2*m+1) 2=1:=by show (2*m+1) % 2=_;omega
  rw [e];rfl
 have h2:Nat.div (2*m+1) 2=m:=by show (2*m+1) / 2=m;omega
 rw [h1,h2]
theorem T.Q0 (x:Option AO):(T.node v l r).set 0 x=T.node x l r:=rfl
theorem T.V4 (m:Nat) (x:Option AO):(T.node v l r).set (2*m+1) x=T.node v (l.set m x) r:=by
 show (Bool.rec (T.node v (l.set (Nat.div (2*m) 2) x) r) (T.node v l (r.set (Nat.div (2*m) 2) x)) (Nat.beq (Nat.mod (2*m) 2) 1):T)=_
 have h1:Nat.beq (Nat.mod (2*m) 2) 1=false:=by
  have e:Nat.mod (2*m) 2=0:=by show (2*m) % 2=_;omega
  rw [e];rfl
 have h2:Nat.div (2*m) 2=m:=by show (2*m) / 2=m;omega
 rw [h1,h2]
theorem T.UT (m:Nat) (x:Option AO):(T.node v l r).set (2*m+2) x=T.node v l (r.set m x):=by
 show (Bool.rec (T.node v (l.set (Nat.div (2*m+1) 2) x) r) (T.node v l (r.set (Nat.div (2*m+1) 2) x)) (Nat.beq (Nat.mod (2*m+1) 2) 1):T)=_
 have h1:Nat.beq (Nat.mod (2*m+1) 2) 1=true:=by
  have e:Nat.mod (2*m+1) 2=1:=by show (2*m+1) % 2=_;omega
  rw [e];rfl
 have h2:Nat.div (2*m+1) 2=m:=by show (2*m+1) / 2=m;omega
 rw [h1,h2]
theorem T.R6 (f:Nat) (x:Option AO):T.one (f+1) 0 x= .node x .nil .nil:=rfl
theorem T.WT (f m:Nat) (x:Option AO):T.one (f+1) (2*m+1) x= .node none (T.one f m x) .nil:=by
 show (Bool.rec (T.node none (T.one f (Nat.div (2*m) 2) x) .nil) (T.node none .nil (T.one f (Nat.div (2*m) 2) x)) (Nat.beq (Nat.mod (2*m) 2) 1):T)=_
 have h1:Nat.beq (Nat.mod (2*m) 2) 1=false:=by
  have e:Nat.mod (2*m) 2=0:=by show (2*m) % 2=_;omega
  rw [e];rfl
 have h2:Nat.div (2*m) 2=m:=by show (2*m) / 2=m;omega
 rw [h1,h2]
theorem T.SJ (f m:Nat) (x:Option AO):T.one (f+1) (2*m+2) x= .node none .nil (T.one f m x):=by
 show (Bool.rec (T.node none (T.one f (Nat.div (2*m+1) 2) x) .nil) (T.node none .nil (T.one f (Nat.div (2*m+1) 2) x)) (Nat.beq (Nat.mod (2*m+1) 2) 1):T)=_
 have h1:Nat.beq (Nat.mod (2*m+1) 2) 1=true:=by
  have e:Nat.mod (2*m+1) 2=1:=by show (2*m+1) % 2=_;omega
  rw [e];rfl
 have h2:Nat.div (2*m+1) 2=m:=by show (2*m+1) / 2=m;omega
 rw [h1,h2]
end
theorem T.DS (x:Option AO):∀ (f n m:Nat),n+1<2 ^ f→(T.one f n x).get m=if m=n then x else none
 |0,n,m,h=>by simp at h
 |f+1,n,m,h=>by
  have hp:2 ^ (f+1)=2*2 ^ f:=by rw [Nat.pow_succ];omega
  rcases dW n with rfl|⟨k,rfl,_,_⟩|⟨k,rfl,_,_,_⟩
  ·rw [T.R6]
   rcases dW m with rfl|⟨j,rfl,_,_⟩|⟨j,rfl,_,_,_⟩
   ·simp [T.iJ]
   ·rw [T.jB,if_neg (by omega)];rfl
   ·rw [T.gN,if_neg (by omega)];rfl
  ·rw [T.WT]
   rcases dW m with rfl|⟨j,rfl,_,_⟩|⟨j,rfl,_,_,_⟩
   ·rw [T.iJ,if_neg (by omega)]
   ·rw [T.jB,T.DS x f k j (by omega)]
    by_cases h:j=k
    ·rw [if_pos h,if_pos (by omega)]
    ·rw [if_neg h,if_neg (by omega)]
   ·rw [T.gN,if_neg (by omega)];rfl
  ·rw [T.SJ]
   rcases dW m with rfl|⟨j,rfl,_,_⟩|⟨j,rfl,_,_,_⟩
   ·rw [T.iJ,if_neg (by omega)]
   ·rw [T.jB,if_neg (by omega)];rfl
   ·rw [T.gN,T.DS x f k j (by omega)]
    by_cases h:j=k
    ·rw [if_pos h,if_pos (by omega)]
    ·rw [if_neg h,if_neg (by omega)]
theorem T.uK (x:Option AO):∀ (t:T) (n m:Nat),n+1<1099511627776→(t.set n x).get m=if m=n then x else t.get m
 | .nil,n,m,h=>by
  show (T.one 40 n x).get m=_
  rw [T.DS x 40 n m (by simpa using h)];rfl
 | .node v l r,n,m,h=>by
  rcases dW n with rfl|⟨k,rfl,_,_⟩|⟨k,rfl,_,_,_⟩
  ·rw [T.Q0]
   rcases dW m with rfl|⟨j,rfl,_,_⟩|⟨j,rfl,_,_,_⟩
   ·simp [T.iJ]
   ·rw [T.jB,T.jB,if_neg (by omega)]
   ·rw [T.gN,T.gN,if_neg (by omega)]
  ·rw [T.V4]
   rcases dW m with rfl|⟨j,rfl,_,_⟩|⟨j,rfl,_,_,_⟩
   ·rw [T.iJ,T.iJ,if_neg (by omega)]
   ·rw [T.jB,T.jB,T.uK x l k j (by omega)]
    by_cases h:j=k
    ·rw [if_pos h,if_pos (by omega)]
    ·rw [if_neg h,if_neg (by omega)]
   ·rw [T.gN,T.gN,if_neg (by omega)]
  ·rw [T.UT]
   rcases dW m with rfl|⟨j,rfl,_,_⟩|⟨j,rfl,_,_,_⟩
   ·rw [T.iJ,T.iJ,if_neg (by omega)]
   ·rw [T.jB,T.jB,if_neg (by omega)]
   ·rw [T.gN,T.gN,T.uK x r k j (by omega)]
    by_cases h:j=k
    ·rw [if_pos h,if_pos (by omega)]
    ·rw [if_neg h,if_neg (by omega)]
def has:Fr→Nat→Bool
 | .nil,_=>false
 | .node _ l r,n=>if n=0 then true else if n % 2=1 then has l (n / 2) else has r (n / 2 - 1)
section
variable (v:Value) (l r:Fr)
theorem l7:has (.node v l r) 0=true:=by simp [has]
theorem lK (m:Nat):has (.node v l r) (2*m+1)=has l m:=by
 have h2:(2*m+1) % 2=1:=by omega
 have h3:(2*m+1) / 2=m:=by omega
 simp [has,h2,h3]
theorem jN (m:Nat):has (.node v l r) (2*m+2)=has r m:=by
 have h2:(2*m+2) % 2=0:=by omega
 have h3:(2*m+2) / 2 - 1=m:=by omega
 simp [has,h2,h3]
theorem kK:iF (.node v l r) 0=v:=rfl
theorem kQ (m:Nat):iF (.node v l r) (2*m+1)=iF l m:=by
 show (Bool.rec (iF l (Nat.div (2*m) 2)) (iF r (Nat.div (2*m) 2)) (Nat.beq (Nat.mod (2*m) 2) 1):Value)=_
 have h1:Nat.beq (Nat.mod (2*m) 2) 1=false:=by
  have e:Nat.mod (2*m) 2=0:=by show (2*m) % 2=_;omega
  rw [e];rfl
 have h2:Nat.div (2*m) 2=m:=by show (2*m) / 2=m;omega
 rw [h1,h2]
theorem i6 (m:Nat):iF (.node v l r) (2*m+2)=iF r m:=by
 show (Bool.rec (iF l (Nat.div (2*m+1) 2)) (iF r (Nat.div (2*m+1) 2)) (Nat.beq (Nat.mod (2*m+1) 2) 1):Value)=_
 have h1:Nat.beq (Nat.mod (2*m+1) 2) 1=true:=by
  have e:Nat.mod (2*m+1) 2=1:=by show (2*m+1) % 2=_;omega
  rw [e];rfl
 have h2:Nat.div (2*m+1) 2=m:=by show (2*m+1) / 2=m;omega
 rw [h1,h2]
theorem PU (x:Value):fM (.node v l r) 0 x= .node x l r:=rfl
theorem TD (m:Nat) (x:Value):fM (.node v l r) (2*m+1) x= .node v (fM l m x) r:=by
 show (Bool.rec (FT.node v (fM l (Nat.div (2*m) 2) x) r) (FT.node v l (fM r (Nat.div (2*m) 2) x)) (Nat.beq (Nat.mod (2*m) 2) 1):FT)=_
 have h1:Nat.beq (Nat.mod (2*m) 2) 1=false:=by
  have e:Nat.mod (2*m) 2=0:=by show (2*m) % 2=_;omega
  rw [e];rfl
 have h2:Nat.div (2*m) 2=m:=by show (2*m) / 2=m;omega
 rw [h1,h2]
theorem MN (m:Nat) (x:Value):fM (.node v l r) (2*m+2) x= .node v l (fM r m x):=by
 show (Bool.rec (FT.node v (fM l (Nat.div (2*m+1) 2) x) r) (FT.node v l (fM r (Nat.div (2*m+1) 2) x)) (Nat.beq (Nat.mod (2*m+1) 2) 1):FT)=_
 have h1:Nat.beq (Nat.mod (2*m+1) 2) 1=true:=by
  have e:Nat.mod (2*m+1) 2=1:=by show (2*m+1) % 2=_;omega
  rw [e];rfl
 have h2:Nat.div (2*m+1) 2=m:=by show (2*m+1) / 2=m;omega
 rw [h1,h2]
end
theorem kG (x:Value):∀ (t:Fr) (n m:Nat),has (fM t n x) m=has t m∧iF (fM t n x) m=if m=n∧has t n=true then x else iF t m
 | .nil,n,m=>⟨rfl,by
  show Go.undef=_
  rw [if_neg (by simp [has])];rfl⟩
 | .node v l r,n,m=>by
  rcases dW n with rfl|⟨k,rfl,_,_⟩|⟨k,rfl,_,_,_⟩
  ·rw [PU]
   rcases dW m with rfl|⟨j,rfl,_,_⟩|⟨j,rfl,_,_,_⟩
   ·simp [kK,l7]
   ·rw [kQ,kQ,lK,lK,if_neg (by omega)];exact ⟨rfl,rfl⟩
   ·rw [i6,i6,jN,jN,if_neg (by omega)];exact ⟨rfl,rfl⟩
  ·rw [TD,lK v l r k]
   rcases dW m with rfl|⟨j,rfl,_,_⟩|⟨j,rfl,_,_,_⟩
   ·rw [kK,kK,l7,l7,if_neg (by omega)];exact ⟨rfl,rfl⟩
   ·rw [kQ,kQ,lK,lK,(kG x l k j).2,(kG x l k j).1]
    refine ⟨rfl,?_⟩
    by_cases h:j=k
    ·subst h
     by_cases h2:has l j=true
     ·rw [if_pos ⟨rfl,h2⟩,if_pos ⟨rfl,h2⟩]
     ·rw [if_neg (fun h=>h2 h.2),if_neg (fun h=>h2 h.2)]
    ·rw [if_neg (fun hh=>h hh.1),if_neg (by omega)]
   ·rw [i6,i6,jN,jN,if_neg (by omega)];exact ⟨rfl,rfl⟩
  ·rw [MN,jN v l r k]
   rcases dW m with rfl|⟨j,rfl,_,_⟩|⟨j,rfl,_,_,_⟩
   ·rw [kK,kK,l7,l7,if_neg (by omega)];exact ⟨rfl,rfl⟩
   ·rw [kQ,kQ,lK,lK,if_neg (by omega)];exact ⟨rfl,rfl⟩
   ·rw [i6,i6,jN,jN,(kG x r k j).2,(kG x r k j).1]
    refine ⟨rfl,?_⟩
    by_cases h:j=k
    ·subst h
     by_cases h2:has r j=true
     ·rw [if_pos ⟨rfl,h2⟩,if_pos ⟨rfl,h2⟩]
     ·rw [if_neg (fun h=>h2 h.2),if_neg (fun h=>h2 h.2)]
    ·rw [if_neg (fun hh=>h hh.1),if_neg (by omega)]
theorem KD (f n:Nat):fresh (f+1) (n+1)= .node Go.undef (fresh f ((n+1) / 2)) (fresh f (n / 2)):=rfl
theorem xR (f:Nat):fresh f 0= .nil:=by cases f <;> rfl
theorem o9:∀ (f n i:Nat),n<2 ^ f→((has (fresh f n) i=true↔i<n)∧iF (fresh f n) i=Go.undef)
 |0,n,i,h=>by
  have:n=0:=by omega
  subst this
  rw [xR]
  exact ⟨by simp [has],rfl⟩
 |f+1,0,i,h=>by
  rw [xR]
  exact ⟨by simp [has],rfl⟩
 |f+1,n+1,i,h=>by
  have hp:2 ^ (f+1)=2*2 ^ f:=by rw [Nat.pow_succ];omega
  rw [KD]
  rcases dW i with rfl|⟨j,rfl,_,_⟩|⟨j,rfl,_,_,_⟩
  ·rw [l7,kK];exact ⟨by simp,rfl⟩
  ·rw [lK,kQ]
   have:=o9 f ((n+1) / 2) j (by omega)
   exact ⟨this.1.trans (by omega),this.2⟩
  ·rw [jN,i6]
   have:=o9 f (n / 2) j (by omega)
   exact ⟨this.1.trans (by omega),this.2⟩
structure TR (ρ:Rn) (t:Fr) (c:Array Value):Prop where
 has:∀ i,has t i=true↔i<c.size
 get:∀ i,VR ρ (iF t i) (c.getD i Go.undef)
theorem TR.mono {ρ σ:Rn} {t:Fr} {c:Array Value} (hl:ρ.le σ) (h:TR ρ t c):TR σ t c:=⟨h.has,fun i=>(h.get i).mono hl⟩
theorem TR.set {ρ:Rn} {t:Fr} {c:Array Value} (h:TR ρ t c) {v w:Value} (hv:VR ρ v w) (d:Nat):TR ρ (fM t d v) (c.setIfInBounds d w):=by
 refine ⟨fun i=>by rw [(kG v t d i).1,h.has i,Array.size_setIfInBounds],fun i=>?_⟩
 rw [(kG v t d i).2]
 by_cases hi:i=d∧Abs.has t d=true
 ·obtain ⟨rfl,h2⟩:=hi
  have hlt:=(h.has i).1 h2
  rw [if_pos ⟨rfl,h2⟩]
  simpa [hlt] using hv
 ·rw [if_neg hi]
  by_cases he:i=d
  ·subst he
   have hn:¬ i<c.size:=fun hlt=>hi ⟨rfl,(h.has i).2 hlt⟩
   have:=h.get i
   simpa [hn] using this
  ·have:=h.get i
   have hne:¬ d=i:=fun e=>he e.symm
   simpa [hne,Array.getElem?_setIfInBounds_ne hne] using this
theorem TR.put {ρ:Rn} {t:Fr} {c:Act} (h:TR ρ t c.tmps) {v w:Value} (hv:VR ρ v w) (d:Option Tmp):TR ρ (pL t d v) (c.put d w).tmps:=by
 cases d with
 |none=>exact h
 |some d=>exact h.set hv d
theorem FO (t:Fr) (v:Value) (l:List Value) (i:Nat):(List.rec (motive:=fun _=>Nat→Fr→Fr) (fun _ t=>t) (fun v _ k i t=>k (i+1) (fM t i v)) (v :: l) i t:Fr)=List.rec (motive:=fun _=>Nat→Fr→Fr) (fun _ t=>t) (fun v _ k i t=>k (i+1) (fM t i v)) l (i+1) (fM t i v):=rfl
theorem L9 {ρ:Rn} :∀ {l m:List Value} (h:LR ρ l m) (t:Fr) (pre:List Value) (k:Nat),TR ρ t (pre++List.replicate (m.length+k) Go.undef).toArray→
  TR ρ (List.rec (motive:=fun _=>Nat→Fr→Fr) (fun _ t=>t) (fun v _ k i t=>k (i+1) (fM t i v)) l pre.length t) (pre++m++List.replicate k Go.undef).toArray
 |_,_,.nil,t,pre,k,h=>by simpa using h
 |_,_,.cons (v:=v) (w:=w) (l:=l) (m:=m) hv ht,t,pre,k,h=>by
  rw [FO]
  have hs:=h.set hv pre.length
  have he:(pre++List.replicate ((w :: m).length+k) Go.undef).toArray.setIfInBounds pre.length w=(pre++ [w]++List.replicate (m.length+k) Go.undef).toArray:=by
   have:(w :: m).length+k=(m.length+k)+1:=by simp;omega
   rw [this,List.replicate_succ]
   simp
  rw [he] at hs
  have:=L9 ht (fM t pre.length v) (pre++ [w]) k hs
  simpa using this
theorem FW {ρ:Rn} {l:List Value} {m:Array Value} (h:LR ρ l m.toList) (n:Nat) (hn:n≤2000) (hl:l.length≤n):TR ρ (kF n l) (m++Array.replicate (n - m.size) Go.undef):=by
 have hs:m.size=l.length:=by rw [h.length];simp
 have h0:TR ρ (fresh 12 n) (([]:List Value)++List.replicate (m.toList.length+(n - m.size)) Go.undef).toArray:=by
  refine ⟨fun i=>?_,fun i=>?_⟩
  ·rw [(o9 12 n i (by omega)).1]
   simp
   omega
  ·rw [(o9 12 n i (by omega)).2]
   have:((([]:List Value)++List.replicate (m.toList.length+(n - m.size)) Go.undef).toArray.getD i Go.undef)=Go.undef:=by
    simp [Array.getElem?_replicate]
    split <;> rfl
   rw [this]
   exact .undef
 have:=L9 h _ _ _ h0
 have he:(([]:List Value)++m.toList++List.replicate (n - m.size) Go.undef).toArray=m++Array.replicate (n - m.size) Go.undef:=by
  apply Array.toList_inj.1;simp
 rw [he] at this
 exact this
structure Md (S:Nat→Prop) (w w':World):Prop where
 os:w'.os=w.os
 tape:w'.tape=w.tape
 output:w'.output=w.output
 size:w.heap.size≤w'.heap.size
 block:∀ i,i<w.heap.size→¬ S i→w'.heap[i]?=w.heap[i]?
theorem Md.refl (S:Nat→Prop) (w:World):Md S w w:=⟨rfl,rfl,rfl,Nat.le_refl _,fun _ _ _=>rfl⟩
theorem Md.trans {S R:Nat→Prop} {w w1 w2:World} (h:Md S w w1) (k:Md R w1 w2) (hR:∀ i,i<w.heap.size→R i→S i):Md S w w2:=
 ⟨k.os.trans h.os,k.tape.trans h.tape,k.output.trans h.output,Nat.le_trans h.size k.size,fun i hi hn=>(k.block i (Nat.lt_of_lt_of_le hi h.size) (fun hr=>hn (hR i hi hr))).trans (h.block i hi hn)⟩
theorem Md.setRow {S:Nat→Prop} (w:World) {g:Nat} (hg:S g) (cs:Array Value):Md S w (w.setRow g cs):=
 ⟨rfl,rfl,rfl,by simp [World.setRow],fun k _ hn=>setRow_other w g k cs (fun e=>hn (e▸hg))⟩
theorem Md.drew (S:Nat→Prop) (w:World):Md S w w.drew:=⟨rfl,rfl,rfl,Nat.le_refl _,fun _ _ _=>rfl⟩
def PL (ρ:Rn) (cs:List Value) (C:List Value):Prop:=∃ pre rest,C=pre++rest∧LR ρ cs pre
theorem PL.mono {ρ σ:Rn} (hl:ρ.le σ) {cs C:List Value} (h:PL ρ cs C):PL σ cs C:=by
 obtain ⟨p,r,h1,h2⟩:=h
 exact ⟨p,r,h1,h2.mono hl⟩
theorem PL.get {ρ:Rn} {cs C:List Value} (h:PL ρ cs C) {i:Nat} {v:Value} (hv:cs[i]?=some v):∃ w,C[i]?=some w∧VR ρ v w:=by
 obtain ⟨p,r,rfl,h2⟩:=h
 obtain ⟨w,hw,hr⟩:=h2.get hv
 have hlt:i<p.length:=by
  rcases Nat.lt_or_ge i p.length with h|h
  ·exact h
  ·rw [List.getElem?_eq_none h] at hw;cases hw
 exact ⟨w,by rw [List.getElem?_append_left hlt];exact hw,hr⟩
theorem PL.length {ρ:Rn} {cs C:List Value} (h:PL ρ cs C):cs.length≤C.length:=by
 obtain ⟨p,r,rfl,h2⟩:=h
 rw [h2.length];simp
def LD:Obj→Prop
 | .cells .. =>False
 |_=>True
def OR (P:Program) (ρ:Rn) (b:Nat) (o:AO) (x:Option Obj):Prop:=
 match o with
 | .row cs e m=>∃ C fr,x=some (.cells C e fr)∧PL ρ cs C.toList∧(m≠2→fr=(0,0))∧(m=1→∃ i,P.info? e=some i∧C.size=ρ.cap b*i.size∧ρ.cap b≤maxLen)∧(m=0→C.size=cs.length)
 | .obj o=>x=some o∧LD o
theorem OR.mono {P:Program} {ρ σ:Rn} (hl:ρ.le σ) {b:Nat} (hc:σ.cap b=ρ.cap b) {o:AO} {x:Option Obj} (h:OR P ρ b o x):OR P σ b o x:=by
 cases o with
 |row cs e m=>
  obtain ⟨C,fr,h1,h2,h3,h4,h5⟩:=h
  exact ⟨C,fr,h1,h2.mono hl,h3,fun hm=>by rw [hc];exact h4 hm,h5⟩
 |obj o=>exact h
structure Rel (P:Program) (ρ:Rn) (a:A) (w:World):Prop where
 obj:∀ b o,a.get b=some o→∃ c,ρ.bI b=some c∧OR P ρ b o w.heap[c]?
 inj:∀ b b' c,a.get b≠none→a.get b'≠none→ρ.bI b=some c→ρ.bI b'=some c→b=b'
theorem OR.some {P:Program} {ρ:Rn} {b:Nat} {o:AO} {x:Option Obj} (h:OR P ρ b o x):∃ y,x=some y:=by
 cases o with
 |row cs e m=>obtain ⟨C,fr,h1,_⟩:=h;exact ⟨_,h1⟩
 |obj o=>exact ⟨_,h.1⟩
theorem Rel.lt {P:Program} {ρ:Rn} {a:A} {w:World} (h:Rel P ρ a w) {b c:Nat} (hb:a.get b≠none) (hc:ρ.bI b=some c):c<w.heap.size:=by
 cases ho:a.get b with
 |none=>exact absurd ho hb
 |some o=>
  obtain ⟨c',h1,h2⟩:=h.obj b o ho
  rw [hc] at h1;cases h1
  obtain ⟨y,hy⟩:=h2.some
  exact (Array.getElem?_eq_some_iff.1 hy).1
def wr:AO→Prop
 | .row _ _ m=>m≠2
 | .obj _=>True
def Live (ρ:Rn) (a:A) (c:Nat):Prop:=∃ b o,a.get b=some o∧wr o∧ρ.bI b=some c
def pS (ρ:Rn) (a:A) (c:Nat):Prop:=∃ b o,a.get b=some o∧True∧ρ.bI b=some c
structure St (P:Program) (N:Nat→Prop) (ρ:Rn) (a:A) (w:World) (σ:Rn) (a':A) (w':World):Prop where
 ext:∀ b,¬ N b→σ.bI b=ρ.bI b∧σ.cap b=ρ.cap b
 rel:Rel P σ a' w'
 md:Md (Live ρ a) w w'
 own:∀ c,Live σ a' c→Live ρ a c∨w.heap.size≤c
 names:∀ c,pS σ a' c→pS ρ a c∨w.heap.size≤c
theorem St.le {P:Program} {N:Nat→Prop} {ρ σ:Rn} {a a':A} {w w':World} (h:St P N ρ a w σ a' w') (hN:∀ b,N b→ρ.bI b=none):ρ.le σ:=fun b c hb=>by
 have hn:¬ N b:=fun hb'=>by rw [hN b hb'] at hb;cases hb
 exact ⟨(h.ext b hn).1.trans hb,(h.ext b hn).2⟩
theorem St.refl {P:Program} {N:Nat→Prop} {ρ:Rn} {a:A} {w:World} (h:Rel P ρ a w):St P N ρ a w ρ a w:=⟨fun _ _=>⟨rfl,rfl⟩,h,Md.refl _ _,fun _ hc=> .inl hc,fun _ hc=> .inl hc⟩
theorem St.trans {P:Program} {N:Nat→Prop} {ρ σ τ:Rn} {a a1 a2:A} {w w1 w2:World} (h:St P N ρ a w σ a1 w1) (k:St P N σ a1 w1 τ a2 w2):St P N ρ a w τ a2 w2:=
 ⟨fun b hb=>⟨(k.ext b hb).1.trans (h.ext b hb).1,(k.ext b hb).2.trans (h.ext b hb).2⟩,k.rel,h.md.trans k.md (fun i hi hl=>by
  rcases h.own i hl with h'|h'
  ·exact h'
  ·omega),fun c hc=>by
  rcases k.own c hc with h'|h'
  ·exact h.own c h'
  ·exact .inr (Nat.le_trans h.md.size h'),fun c hc=>by
  rcases k.names c hc with h'|h'
  ·exact h.names c h'
  ·exact .inr (Nat.le_trans h.md.size h')⟩
theorem St.wide {P:Program} {N M:Nat→Prop} {ρ σ:Rn} {a a':A} {w w':World} (h:St P N ρ a w σ a' w') (hN:∀ b,N b→M b):St P M ρ a w σ a' w':=⟨fun b hb=>h.ext b (fun hn=>hb (hN b hn)),h.rel,h.md,h.own,h.names⟩
theorem get_put (a:A) (b:Nat) (v:Option AO) (m:Nat) (h:b+1<1099511627776):(a.put b v).get m=if m=b then v else a.get m:=T.uK v a.t b m h
theorem pF (a:A) (o:AO) (m:Nat) (h:a.room=true):(a.new o).get m=if m=a.next then some o else a.get m:=by
 refine T.uK (some o) a.t a.next m ?_
 simp only [A.room] at h
 have:=Nat.le_of_ble_eq_true h
 omega
theorem St.new {P:Program} {ρ:Rn} {a:A} {w w1:World} (h:Rel P ρ a w) (hr:a.room=true) (hn:ρ.bI a.next=none) (o:AO) (x:Obj) (cap:Nat) (hw:w1.heap=w.heap) (h1:w1.os=w.os) (h2:w1.tape=w.tape) (h3:w1.output=w.output)
  (ho:∀ σ:Rn,ρ.le σ→σ.bI a.next=some w.heap.size→σ.cap a.next=cap→OR P σ a.next o (some x)):
  ∃ σ:Rn,ρ.le σ∧σ.bI a.next=some w.heap.size∧σ.cap a.next=cap∧St P (fun b=>b=a.next) ρ a w σ (a.new o) (w1.alloc x):=by
 obtain ⟨σ,hσ⟩:∃ σ:Rn,σ=⟨fun b=>if b=a.next then some w.heap.size else ρ.bI b,fun b=>if b=a.next then cap else ρ.cap b⟩:=⟨_,rfl⟩
 have e1:σ.bI a.next=some w.heap.size:=by rw [hσ];simp
 have e2:σ.cap a.next=cap:=by rw [hσ];simp
 have e3:∀ b,b≠a.next→σ.bI b=ρ.bI b∧σ.cap b=ρ.cap b:=fun b hb=>by rw [hσ];simp [hb]
 have hl:ρ.le σ:=fun b c hb=>by
  have hne:b≠a.next:=fun e=>by rw [e,hn] at hb;cases hb
  exact ⟨(e3 b hne).1.trans hb,(e3 b hne).2⟩
 have hsz:w1.heap.size=w.heap.size:=by rw [hw]
 refine ⟨σ,hl,e1,e2,fun b hb=>e3 b hb,⟨fun b o' hb=>?_,fun b b' c hb hb' hc hc'=>?_⟩,⟨h1,h2,h3,by simp [hsz],fun i hi _=>by rw [heap_alloc_old w1 x i (by omega),hw]⟩,fun c hc=>?_,fun c hc=>?_⟩
 ·rw [pF a o b hr] at hb
  by_cases he:b=a.next
  ·rw [if_pos he] at hb
   cases hb
   subst he
   refine ⟨_,e1,?_⟩
   rw [← hsz,heap_alloc_new]
   exact ho σ hl e1 e2
  ·rw [if_neg he] at hb
   obtain ⟨c,hc,hor⟩:=h.obj b o' hb
   refine ⟨c,(hl b c hc).1,?_⟩
   rw [heap_alloc_old w1 x c (by rw [hsz];exact h.lt (by rw [hb];simp) hc),hw]
   exact hor.mono hl (hl b c hc).2
 ·rw [pF a o b hr] at hb
  rw [pF a o b' hr] at hb'
  by_cases he:b=a.next <;> by_cases he':b'=a.next
  ·rw [he,he']
  ·exfalso
   rw [he,e1] at hc;cases hc
   rw [if_neg he'] at hb'
   rw [(e3 b' he').1] at hc'
   have:=h.lt hb' hc'
   omega
  ·exfalso
   rw [he',e1] at hc';cases hc'
   rw [if_neg he] at hb
   rw [(e3 b he).1] at hc
   have:=h.lt hb hc
   omega
  ·rw [if_neg he] at hb
   rw [if_neg he'] at hb'
   rw [(e3 b he).1] at hc
   rw [(e3 b' he').1] at hc'
   exact h.inj b b' c hb hb' hc hc'
 ·obtain ⟨b,o',hb,hwr,hc⟩:=hc
  rw [pF a o b hr] at hb
  by_cases he:b=a.next
  ·rw [he,e1] at hc;cases hc
   exact .inr (Nat.le_refl _)
  ·rw [if_neg he] at hb
   rw [(e3 b he).1] at hc
   exact .inl ⟨b,o',hb,hwr,hc⟩
 ·obtain ⟨b,o',hb,hwr,hc⟩:=hc
  rw [pF a o b hr] at hb
  by_cases he:b=a.next
  ·rw [he,e1] at hc;cases hc
   exact .inr (Nat.le_refl _)
  ·rw [if_neg he] at hb
   rw [(e3 b he).1] at hc
   exact .inl ⟨b,o',hb,hwr,hc⟩
theorem St.put {P:Program} {ρ:Rn} {a:A} {w w':World} (h:Rel P ρ a w) {b c:Nat} {o o':AO} (hb:a.get b=some o) (hc:ρ.bI b=some c) (hlt:b+1<1099511627776) (hmd:Md (fun k=>k=c) w w') (ho:OR P ρ b o' w'.heap[c]?) (hwr:wr o):
  St P (fun _=>False) ρ a w ρ (a.put b (some o')) w':=by
 have hL:Live ρ a c:=⟨b,o,hb,hwr,hc⟩
 have hlive:∀ k,(a.put b (some o')).get k≠none→a.get k≠none:=fun k hk=>by
  rw [get_put a b (some o') k hlt] at hk
  by_cases he:k=b
  ·rw [he,hb];simp
  ·rw [if_neg he] at hk;exact hk
 refine ⟨fun _ _=>⟨rfl,rfl⟩,⟨fun k x hk=>?_,fun k k' d hk hk'=>h.inj k k' d (hlive k hk) (hlive k' hk')⟩,⟨hmd.os,hmd.tape,hmd.output,hmd.size,fun i hi hn=>hmd.block i hi (fun e=>hn (by rw [e];exact hL))⟩,fun d hd=> .inl (by
  obtain ⟨k,x,hk,hx,hkd⟩:=hd
  rw [get_put a b (some o') k hlt] at hk
  by_cases he:k=b
  ·subst he;rw [hc] at hkd;cases hkd;exact hL
  ·rw [if_neg he] at hk;exact ⟨k,x,hk,hx,hkd⟩),fun d hd=> .inl (by
  obtain ⟨k,x,hk,hx,hkd⟩:=hd
  rw [get_put a b (some o') k hlt] at hk
  by_cases he:k=b
  ·subst he;rw [hc] at hkd;cases hkd;exact ⟨k,o,hb,trivial,hc⟩
  ·rw [if_neg he] at hk;exact ⟨k,x,hk,hx,hkd⟩)⟩
 rw [get_put a b (some o') k hlt] at hk
 by_cases he:k=b
 ·rw [if_pos he] at hk;cases hk
  subst he
  exact ⟨c,hc,ho⟩
 ·rw [if_neg he] at hk
  obtain ⟨d,hd,hor⟩:=h.obj k x hk
  refine ⟨d,hd,?_⟩
  rw [hmd.block d (h.lt (by rw [hk];simp) hd) (fun e=>he (h.inj k b c (by rw [hk];simp) (by rw [hb];simp) (e▸hd) hc))]
  exact hor
theorem Rel.drop {P:Program} {ρ:Rn} {a:A} {w:World} (h:Rel P ρ a w) (b:Nat) (hlt:b+1<1099511627776):Rel P ρ (a.put b none) w∧∀ k,(a.put b none).get k≠none→a.get k≠none:=by
 have hlive:∀ k,(a.put b none).get k≠none→a.get k≠none:=fun k hk=>by
  rw [get_put a b none k hlt] at hk
  by_cases he:k=b
  ·rw [if_pos he] at hk;exact absurd rfl hk
  ·rw [if_neg he] at hk;exact hk
 refine ⟨⟨fun k x hk=>?_,fun k k' d hk hk'=>h.inj k k' d (hlive k hk) (hlive k' hk')⟩,hlive⟩
 rw [get_put a b none k hlt] at hk
 by_cases he:k=b
 ·rw [if_pos he] at hk;cases hk
 ·rw [if_neg he] at hk
  exact h.obj k x hk
theorem take?_nil (o n:Nat):take? [] o n=bif Nat.beq o 0&&Nat.beq n 0 then some [] else none:=rfl
theorem take?_cons (v:Value) (l:List Value) (o n:Nat):take? (v :: l) o n=bif Nat.beq o 0 then (bif Nat.beq n 0 then some [] else match take? l 0 (n - 1) with|some r=>some (v :: r)|none=>none) else take? l (o - 1) n:=rfl
theorem take?_eq:∀ {l:List Value} {o n:Nat} {r:List Value},take? l o n=some r→r=(l.drop o).take n∧o+n≤l.length
 | [],o,n,r,h=>by
  rw [take?_nil] at h
  cases ho:Nat.beq o 0 <;> cases hn:Nat.beq n 0 <;> simp only [ho,hn,Bool.and_true,Bool.and_false,Bool.and_self,cond_true,cond_false,reduceCtorEq,Option.some.injEq] at h
  have h1:=Nat.eq_of_beq_eq_true ho
  have h2:=Nat.eq_of_beq_eq_true hn
  subst h1 h2 h
  simp
 |v :: l,o,n,r,h=>by
  rw [take?_cons] at h
  cases ho:Nat.beq o 0
  ·rw [ho,cond_false] at h
   obtain ⟨h1,h2⟩:=take?_eq h
   have:o≠0:=fun e=>by rw [e] at ho;cases ho
   obtain ⟨k,rfl⟩:∃ k,o=k+1:=⟨o - 1,by omega⟩
   exact ⟨by simpa using h1,by simp at h2 ⊢;omega⟩
  ·have h1:=Nat.eq_of_beq_eq_true ho
   subst h1
   rw [ho,cond_true] at h
   cases hn:Nat.beq n 0
   ·rw [hn,cond_false] at h
    have hn0:n≠0:=fun e=>by rw [e] at hn;cases hn
    obtain ⟨k,rfl⟩:∃ k,n=k+1:=⟨n - 1,by omega⟩
    cases hk:take? l 0 (k+1 - 1) with
    |none=>rw [hk] at h;cases h
    |some q=>
     rw [hk] at h;cases h
     obtain ⟨h1,h2⟩:=take?_eq hk
     simp at h1 h2
     exact ⟨by simp [h1],by simp;omega⟩
   ·have h2:=Nat.eq_of_beq_eq_true hn
    subst h2
    rw [hn,cond_true] at h;cases h
    simp
theorem lay?_nil (o:Nat) (xs:List Value):lay? [] o xs=(match o,xs with|0,[]=>some []|_,_=>none):=rfl
theorem lay?_cons (v:Value) (l:List Value) (o:Nat) (xs:List Value):lay? (v :: l) o xs=bif Nat.beq o 0 then (match xs with| []=>some (v :: l)|x :: xs=>match lay? l 0 xs with|some r=>some (x :: r)|none=>none) else match lay? l (o - 1) xs with|some r=>some (v :: r)|none=>none:=rfl
theorem lay?_eq:∀ {l:List Value} {o:Nat} {xs r:List Value},lay? l o xs=some r→r=l.take o++xs++l.drop (o+xs.length)∧o+xs.length≤l.length
 | [],o,xs,r,h=>by
  rw [lay?_nil] at h
  split at h
  ·cases h;simp
  ·cases h
 |v :: l,o,xs,r,h=>by
  rw [lay?_cons] at h
  cases ho:Nat.beq o 0
  ·rw [ho,cond_false] at h
   have:o≠0:=fun e=>by rw [e] at ho;cases ho
   obtain ⟨k,rfl⟩:∃ k,o=k+1:=⟨o - 1,by omega⟩
   cases hk:lay? l (k+1 - 1) xs with
   |none=>rw [hk] at h;cases h
   |some q=>
    rw [hk] at h;cases h
    obtain ⟨h1,h2⟩:=lay?_eq hk
    simp at h1 h2
    refine ⟨?_,by simp;omega⟩
    have:k+1+xs.length=(k+xs.length)+1:=by omega
    rw [this]
    simp [h1]
  ·have h1:=Nat.eq_of_beq_eq_true ho
   subst h1
   rw [ho,cond_true] at h
   cases xs with
   |nil=>cases h;simp
   |cons x xs=>
    simp only [] at h
    cases hk:lay? l 0 xs with
    |none=>rw [hk] at h;cases h
    |some q=>
     rw [hk] at h;cases h
     obtain ⟨h1,h2⟩:=lay?_eq hk
     simp at h1 h2
     exact ⟨by simp [h1],by simp;omega⟩
theorem LR.drop {ρ:Rn} :∀ {l m:List Value},LR ρ l m→∀ n,LR ρ (l.drop n) (m.drop n)
 |_,_,h,0=>by simpa using h
 |_,_,.nil,n+1=>by simpa using .nil
 |_,_,.cons h ht,n+1=>by simpa using LR.drop ht n
theorem LR.take {ρ:Rn} :∀ {l m:List Value},LR ρ l m→∀ n,LR ρ (l.take n) (m.take n)
 |_,_,h,0=>by simpa using .nil
 |_,_,.nil,n+1=>by simpa using .nil
 |_,_,.cons h ht,n+1=>by simpa using .cons h (LR.take ht n)
theorem PL.taken {ρ:Rn} {cs C vs:List Value} {o n:Nat} (h:PL ρ cs C) (ht:take? cs o n=some vs):∃ ws,LR ρ vs ws∧ws.length=n∧∀ j v,ws[j]?=some v→C[o+j]?=some v:=by
 obtain ⟨p,r,rfl,h2⟩:=h
 obtain ⟨rfl,hle⟩:=take?_eq ht
 have hlen:=h2.length
 refine ⟨(p.drop o).take n,(h2.drop o).take n,by simp;omega,fun j v hv=>?_⟩
 rw [List.getElem?_take] at hv
 split at hv
 ·rw [List.getElem?_drop] at hv
  have hlt:o+j<p.length:=by
   rcases Nat.lt_or_ge (o+j) p.length with h|h
   ·exact h
   ·rw [List.getElem?_eq_none h] at hv;cases hv
  rw [List.getElem?_append_left hlt];exact hv
 ·cases hv
theorem PL.laid {ρ:Rn} {cs C xs ys r:List Value} {o:Nat} (h:PL ρ cs C) (hx:LR ρ xs ys) (hl:lay? cs o xs=some r):PL ρ r (C.take o++ys++C.drop (o+ys.length))∧o+ys.length≤C.length:=by
 obtain ⟨p,q,rfl,h2⟩:=h
 obtain ⟨rfl,hle⟩:=lay?_eq hl
 have h3:=h2.length
 have h4:=hx.length
 refine ⟨⟨p.take o++ys++p.drop (o+ys.length),q,?_,?_⟩,by simp;omega⟩
 ·rw [List.take_append_of_le_length (by omega),List.drop_append_of_le_length (by omega)]
  simp
 ·exact ((h2.take o).append hx).append (h4▸h2.drop (o+xs.length))
abbrev CF:=List (Addr × Value)
def cf (c o:Nat):List Value→CF
 | []=> []
 |v :: l=>(⟨c,o,none⟩,v) :: cf c (o+1) l
def FR (ρ:Rn) (fs:jZ) (L:CF):Prop:=∀ p,p∈L→∃ f,f∈fs∧ρ.bI f.1=some p.1.block∧p.1=⟨p.1.block,f.2.1,none⟩∧VR ρ f.2.2 p.2
def Holds (L:CF) (w:World):Prop:=∀ p,p∈L→w.cell? p.1=some p.2
theorem FR.mono {ρ σ:Rn} (hl:ρ.le σ) {fs:jZ} {L:CF} (h:FR ρ fs L):FR σ fs L:=fun p hp=>by
 obtain ⟨f,h1,h2,h3,h4⟩:=h p hp
 exact ⟨f,h1,(hl _ _ h2).1,h3,h4.mono hl⟩
theorem FR.facts {ρ:Rn} {b c:Nat} (hc:ρ.bI b=some c):∀ {vs ws:List Value} (o:Nat),LR ρ vs ws→FR ρ (Abs.facts b o vs) (cf c o ws)
 |_,_,o,.nil=>fun p hp=>by simp [cf] at hp
 |_,_,o,.cons h ht=>fun p hp=>by
  simp only [cf,List.mem_cons] at hp
  rcases hp with rfl|hp
  ·exact ⟨_,List.mem_cons_self,hc,rfl,h⟩
  ·obtain ⟨f,h1,h2⟩:=FR.facts hc (o+1) ht p hp
   exact ⟨f,List.mem_cons_of_mem _ h1,h2⟩
theorem iK {c:Nat} {w:World} :∀ {ws:List Value} {o:Nat},Holds (cf c o ws) w↔ ∀ j v,ws[j]?=some v→w.cell? ⟨c,o+j,none⟩=some v
 | [],o=>by simp [cf,Holds]
 |v :: ws,o=>by
  have ih:=iK (c:=c) (w:=w) (ws:=ws) (o:=o+1)
  constructor
  ·intro h j u hj
   cases j with
   |zero=>simp at hj;subst hj;exact h _ List.mem_cons_self
   |succ j=>
    simp at hj
    have:=ih.1 (fun p hp=>h p (List.mem_cons_of_mem _ hp)) j u hj
    rw [show o+(j+1)=o+1+j from by omega]
    exact this
  ·intro h p hp
   simp only [cf,List.mem_cons] at hp
   rcases hp with rfl|hp
   ·exact h 0 v (by simp)
   ·refine ih.2 (fun j u hj=>?_) p hp
    rw [show o+1+j=o+(j+1) from by omega]
    exact h (j+1) u (by simpa using hj)
def xY (P:Program) (ρ:Rn) (a:A) (w:World) (s:Sem Value):R1→Prop
 | .pu v=>∃ cv,VR ρ v cv∧∀ w,s.run P w= .ok cv w
 | .rd v fs=>∃ cv L,VR ρ v cv∧FR ρ fs L∧Holds L w∧∀ w',Holds L w'→s.run P w'= .ok cv w'
 | .act v a'=>∃ cv w' σ,s.run P w= .ok cv w'∧VR σ v cv∧St P (fun b=>b=a.next) ρ a w σ a' w'∧(a'.next=a.next∧σ=ρ∨a'.next=a.next+1)
 | .cl _ _=>False
theorem bH {P:Program} {t:TypeId} {d:TypeDesc} (h:P.underlying t=some d) (w:World):(underlying t).run P w= .ok d w:=by simp [underlying,h]
theorem EH {P:Program} {t:TypeId} {i:TypeInfo} (h:P.info? t=some i) (w:World):(typeInfo t).run P w= .ok i w:=by simp [typeInfo,h]
theorem eP {P:Program} {t:TypeId} {i:TypeInfo} (h:P.info? t=some i) (w:World):(sizeOf t).run P w= .ok i.size w:=by simp [sizeOf,typeInfo,h]
theorem oU {P:Program} {t:TypeId} {i:TypeInfo} {z:Value} (h:P.info? t=some i) (hz:i.zero=some z) (w:World):(zeroValue t).run P w= .ok z w:=by simp [zeroValue,typeInfo,h,hz]
theorem xA {P:Program} {t:TypeId} {d:TypeDesc} (h:P.underlying t=some d) (w:World):(isAgg t).run P w= .ok (UD d) w:=by
 unfold isAgg
 simp only [Sem.run_bind,bH h,Result.andThen_ok]
 cases d <;> rfl
theorem add_eq (c o k:Nat):(Addr.mk c o none).add k=⟨c,o+k,none⟩:=by
 unfold Addr.add
 split <;> simp_all
theorem Rel.row {P:Program} {ρ:Rn} {a:A} {w:World} (h:Rel P ρ a w) {b:Nat} {cs:List Value} {e:TypeId} {m:Nat} (hb:a.get b=some (.row cs e m)) {c:Nat} (hc:ρ.bI b=some c):
  ∃ C fr,w.heap[c]?=some (.cells C e fr)∧PL ρ cs C.toList∧(m≠2→fr=(0,0))∧(m=1→∃ i,P.info? e=some i∧C.size=ρ.cap b*i.size∧ρ.cap b≤maxLen)∧(m=0→C.size=cs.length):=by
 obtain ⟨c',h1,h2⟩:=h.obj b _ hb
 rw [hc] at h1;cases h1
 exact h2
theorem Rel.taken {P:Program} {ρ:Rn} {a:A} {w:World} (h:Rel P ρ a w) {b:Nat} {cs vs:List Value} {e:TypeId} {m:Nat} (hb:a.get b=some (.row cs e m)) {c:Nat} (hc:ρ.bI b=some c) {o n:Nat} (ht:take? cs o n=some vs):
  ∃ ws,LR ρ vs ws∧ws.length=n∧Holds (cf c o ws) w:=by
 obtain ⟨C,fr,h1,h2,_⟩:=h.row hb hc
 obtain ⟨ws,h3,h4,h5⟩:=h2.taken ht
 refine ⟨ws,h3,h4,iK.2 fun j v hv=>?_⟩
 rw [cell_of_row w c (o+j) C e fr h1]
 simpa using h5 j v hv
theorem z8 {P:Program} {w:World} {c o:Nat} {ws:List Value} (h:Holds (cf c o ws) w):(loadCells ⟨c,o,none⟩ ws.length).run P w= .ok ws.toArray w:=
 run_loadCells_list w ⟨c,o,none⟩ ws (fun j v hv=>by rw [add_eq];exact iK.1 h j v hv)
theorem LV {P:Program} {ρ:Rn} {a:A} {w:World} (hR:Rel P ρ a w) {t:TypeId} {x cx:Value} (hx:VR ρ x cx) {r:R1} (h:xC P a t x=some r):xY P ρ a w (Instr.loadAt t cx) r:=by
 unfold xC at h
 split at h
 ·rename_i b o
  obtain ⟨c,rfl,hc⟩:=hx.gT
  split at h
  ·rename_i cs e m d hb hd
   split at h
   ·rename_i hag
    split at h
    ·rename_i i hi
     split at h
     ·rename_i vs ht
      cases h
      obtain ⟨ws,h1,h2,h3⟩:=hR.taken hb hc ht
      refine ⟨.agg ws.toArray,cf c o ws,.agg (by simpa using h1),FR.facts hc o h1,h3,fun w' hw'=>?_⟩
      simp only [Instr.loadAt,Instr.sureAddr,loadVar,Sem.run_bind,Sem.run_pure,Result.andThen_ok,xA hd,hag,if_true,eP hi,← h2,z8 hw']
     ·cases h
    ·cases h
   ·rename_i hag
    split at h
    ·rename_i v ht
     cases h
     obtain ⟨ws,h1,h2,h3⟩:=hR.taken hb hc ht
     cases h1 with
     |cons hv htl=>
      cases htl with
      |nil=>
       rename_i wv
       refine ⟨wv,cf c o [wv],hv,FR.facts hc o (.cons hv .nil),h3,fun w' hw'=>?_⟩
       have hcell:=iK.1 hw' 0 wv (by simp)
       rw [Nat.add_zero] at hcell
       simp only [Instr.loadAt,Instr.sureAddr,loadVar,Sem.run_bind,Sem.run_pure,Result.andThen_ok,xA hd,hag,Bool.false_eq_true,if_false,run_load,hcell]
    ·cases h
  ·cases h
 ·cases h
theorem LR.one {ρ:Rn} :∀ {l m:List Value},LR ρ l m→l.all Abs.one=true→∀ v∈m,v.oneCell'=true
 |_,_,.nil,_=>fun v hv=>by cases hv
 |_,_,.cons h ht,ha=>fun v hv=>by
  simp only [List.all_cons,Bool.and_eq_true] at ha
  rcases List.mem_cons.1 hv with rfl|hv
  ·rw [h.one];exact ha.1
  ·exact LR.one ht ha.2 v hv
theorem qN {P:Program} {ρ:Rn} {a a':A} {w:World} (hR:Rel P ρ a w) {b o c:Nat} (hc:ρ.bI b=some c) {xs ys:List Value} (hx:LR ρ xs ys) (h:oL a b o xs=some a'):
  ∃ w',(storeCells ⟨c,o,none⟩ ys).run P w= .ok () w'∧St P (fun _=>False) ρ a w ρ a' w'∧a'.next=a.next:=by
 unfold oL at h
 split at h
 ·rename_i cs e m hb
  split at h
  ·rename_i cs' hm hone hl
   cases h
   simp only [Bool.and_eq_true] at hone
   obtain ⟨C,fr,h1,h2,h3,h4,h40⟩:=hR.row hb hc
   have hm2:m≠2:=fun e=>by rw [e] at hm;cases hm
   obtain rfl:=h3 hm2
   obtain ⟨h5,h6⟩:=h2.laid hx hl
   have hst:=run_storeCells_at P c o e ys 0 C w h1 (by simpa using h6) (hx.one hone.1)
   simp only [Nat.add_zero] at hst
   have hlt:b+1<1099511627776:=by
    have h1:=hone.2
    simp only [Nat.blt_eq] at h1
    omega
   refine ⟨_,hst,?_,rfl⟩
   refine St.put hR hb hc hlt (Md.setRow (S:=fun k=>k=c) w rfl _) ?_ hm2
   rw [setRow_heap w c C _ e (0,0) h1]
   refine ⟨_,_,rfl,by simpa using h5,fun _=>rfl,fun hm1=>?_,fun hm0=>?_⟩
   rotate_left
   ·have e1:=h40 hm0
    have e2:=(lay?_eq hl).1
    have e3:=hx.length
    have e4:o+ys.length≤C.size:=by simpa using h6
    rw [e2]
    simp
    omega
   obtain ⟨i,hi,hs,hcap⟩:=h4 hm1
   refine ⟨i,hi,?_,hcap⟩
   rw [← hs]
   simp
   have:o+ys.length≤C.size:=by simpa using h6
   omega
  ·cases h
 ·cases h
theorem TH {P:Program} {ρ:Rn} {a:A} {w:World} (hR:Rel P ρ a w) {t:TypeId} {x cx v cv:Value} (hx:VR ρ x cx) (hv:VR ρ v cv) {r:R1} (h:DK P a t x v=some r):
  ∃ a' w',r= .act undef a'∧(Instr.storeAt t cx cv).run P w= .ok () w'∧St P (fun _=>False) ρ a w ρ a' w'∧a'.next=a.next:=by
 unfold DK at h
 split at h
 ·rename_i b o i hi
  obtain ⟨c,rfl,hc⟩:=hx.gT
  split at h
  ·rename_i a' hs hl
   cases h
   have hcells:=hv.cells
   obtain ⟨w',h1,h2,h3⟩:=qN hR hc hcells hl
   refine ⟨a',w',rfl,?_,h2,h3⟩
   have hsz:cv.cells.size=i.size:=by
    have:=hcells.length
    have h4:=Nat.eq_of_beq_eq_true hs
    simp at this h4
    omega
   simp only [Instr.storeAt,Instr.sureAddr,storeVar,Sem.run_bind,Sem.run_pure,Result.andThen_ok,eP hi,hsz,ne_eq,not_true_eq_false,if_false,h1]
  ·cases h
 ·cases h
theorem mC {P:Program} {ρ:Rn} {a a':A} {w w1:World} (hR:Rel P ρ a w) (hn:ρ.bI a.next=none) {cs:List Value} {C:Array Value} {e:TypeId} {m b:Nat} (h:newRow a cs e m=some (b,a')) (hC:PL ρ cs C.toList) (cap:Nat)
  (hw:w1.heap=w.heap) (h1:w1.os=w.os) (h2:w1.tape=w.tape) (h3:w1.output=w.output) (hm:m=1→∃ i,P.info? e=some i∧C.size=cap*i.size∧cap≤maxLen) (hm0:m=0→C.size=cs.length):
  b=a.next∧∃ σ:Rn,ρ.le σ∧σ.bI a.next=some w.heap.size∧σ.cap a.next=cap∧St P (fun b=>b=a.next) ρ a w σ a' (w1.alloc (.cells C e))∧a'.next=a.next+1:=by
 unfold newRow at h
 split at h
 ·rename_i hr
  cases h
  obtain ⟨σ,s1,s2,s3,s4⟩:=St.new hR hr hn (.row cs e m) (.cells C e) cap hw h1 h2 h3 (fun σ hl hb hcap=>⟨C,_,rfl,hC.mono hl,fun _=>rfl,fun hm1=>by
   obtain ⟨i,h1,h2,h3⟩:=hm hm1
   exact ⟨i,h1,by rw [hcap];exact h2,by rw [hcap];exact h3⟩,hm0⟩)
  exact ⟨rfl,σ,s1,s2,s3,s4,rfl⟩
 ·cases h
theorem PL.all {ρ:Rn} {cs C:List Value} (h:LR ρ cs C):PL ρ cs C:=⟨C,[],by simp,h⟩
theorem IA {P:Program} (t:TypeId) (v:Value) (w:World):(newVar t v).run P w= .ok ⟨w.heap.size,0,none⟩ (w.alloc (.cells v.cells t)):=rfl
theorem iV {P:Program} (t:TypeId) (cs:Array Value) (w:World):(Go.newRow t cs).run P w= .ok ⟨w.heap.size,0,none⟩ (w.alloc (.cells cs t)):=rfl
theorem SL {P:Program} {ρ:Rn} {a:A} {w:World} (hR:Rel P ρ a w) (hn:ρ.bI a.next=none) {e:TypeId} {v cv:Value} (hv:VR ρ v cv) {r:R1} (h:E4 a e v=some r):xY P ρ a w (Instr.box e cv) r:=by
 unfold E4 at h
 split at h
 ·rename_i b a' hnr
  cases h
  obtain ⟨rfl,σ,s1,s2,s3,s4,s5⟩:=mC hR hn hnr (PL.all hv.cells) 0 rfl rfl rfl rfl (by simp) (fun _=>by have:=hv.cells.length;simpa using this.symm)
  exact ⟨_,_,σ,by simp only [Instr.box,Sem.run_bind,IA,Result.andThen_ok,Sem.run_pure],.ptr s2,s4,.inr s5⟩
 ·cases h
theorem VN {P:Program} {ρ:Rn} {a:A} {w:World} (hR:Rel P ρ a w) (hn:ρ.bI a.next=none) {e:TypeId} {r:R1} (h:CE P a e=some r):xY P ρ a w (Instr.alloc e true (.tuple #[])) r:=by
 unfold CE at h
 split at h
 ·rename_i i hi
  split at h
  ·rename_i z hz
   split at h
   ·rename_i hf
    have:=SL hR hn (.flat hf) h
    unfold E4 at h
    split at h
    ·cases h
     obtain ⟨cv,w',σ,h1,h2,h3,h4⟩:=this
     refine ⟨cv,w',σ,?_,h2,h3,h4⟩
     rw [← h1]
     simp only [Instr.alloc,Instr.box,Sem.run_bind,oU hi hz,Result.andThen_ok]
    ·cases h
   ·cases h
  ·cases h
 ·cases h
theorem qJ {P:Program} {ρ:Rn} {a:A} {w:World} (hR:Rel P ρ a w) (hn:ρ.bI a.next=none) {o:Obj} (ho:LD o) {f g:Nat→Value} (hv:∀ (σ:Rn) b c,σ.bI b=some c→VR σ (f b) (g c)) {s:Sem Value} (hs:s.run P w= .ok (g w.heap.size) (w.alloc o)) {r:R1} (h:newObj a o f=some r):xY P ρ a w s r:=by
 unfold newObj at h
 split at h
 ·rename_i hr
  cases h
  obtain ⟨σ,s1,s2,s3,s4⟩:=St.new hR hr hn (.obj o) o 0 rfl rfl rfl rfl (fun σ _ _ _=>⟨rfl,ho⟩)
  exact ⟨_,_,σ,hs,hv σ _ _ s2,s4,.inr rfl⟩
 ·cases h
theorem pD {n:Nat} :(Int.ofNat n).toNat=n:=rfl
theorem C8 {P:Program} {ρ:Rn} {a:A} {w:World} {s:TypeId} {x cx:Value} (hx:VR ρ x cx) {f:Nat} {r:R1} (h:oS P s x f=some r):xY P ρ a w (Instr.fieldAt s cx f) r:=by
 unfold oS at h
 split at h
 ·rename_i fields b o hd
  obtain ⟨c,rfl,hc⟩:=hx.gT
  split at h
  ·rename_i fd hf
   split at h
   ·rename_i i hi
    split at h
    ·rename_i hz
     cases h
     have hne:¬ i.size=0:=fun e=>by rw [e] at hz;cases hz
     refine ⟨_,.ptr hc,fun w'=>?_⟩
     simp only [Instr.fieldAt,Sem.run_bind,bH hd,Result.andThen_ok,hf,Instr.sureAddr,Sem.run_pure,fieldPlace,eP hi,hne,if_false,add_eq]
    ·cases h
   ·cases h
  ·cases h
 ·cases h
theorem iE {P:Program} (k:IntKind) (n:Int) (w:World):(asIntOf (.int k n)).run P w= .ok (k,n) w:=rfl
theorem DP {P:Program} {ρ:Rn} {a:A} {w:World} {t:TypeId} {x cx i ci:Value} (hx:VR ρ x cx) (hi:VR ρ i ci) {r:R1} (h:oC P t x i=some r):xY P ρ a w (Instr.indexAt t cx ci) r:=by
 unfold oC at h
 split at h
 ·rename_i elem b o n k kd j hd
  obtain ⟨c,rfl,hc,hn⟩:=hx.fL
  obtain rfl:=hi.eT
  split at h
  ·rename_i inf hinf hlt
   cases h
   have hj:j<n:=by simpa [Nat.blt_eq] using hlt
   refine ⟨_,.ptr hc,fun w'=>?_⟩
   have h0:0≤Int.ofNat j∧Int.ofNat j<(n:Int):=⟨Int.natCast_nonneg j,Int.ofNat_lt.2 hj⟩
   simp only [Instr.indexAt,Sem.run_bind,iE,Result.andThen_ok,bH hd,Sem.run_pure,h0,and_self,if_true,eP hinf,pD,add_eq]
  ·cases h
 ·rename_i n elem b o kd j hd
  obtain ⟨c,rfl,hc⟩:=hx.gT
  obtain rfl:=hi.eT
  split at h
  ·rename_i inf hinf hlt
   cases h
   have hj:j<n:=by simpa [Nat.blt_eq] using hlt
   refine ⟨_,.ptr hc,fun w'=>?_⟩
   have h0:0≤Int.ofNat j∧Int.ofNat j<(n:Int):=⟨Int.natCast_nonneg j,Int.ofNat_lt.2 hj⟩
   simp only [Instr.indexAt,Sem.run_bind,iE,Result.andThen_ok,bH hd,Instr.sureAddr,Sem.run_pure,h0,and_self,if_true,eP hinf,pD,add_eq]
  ·cases h
 ·cases h
theorem JI {P:Program} {ρ:Rn} {a:A} {w:World} {x cx:Value} (hx:VR ρ x cx) {n:Nat} {r:R1} (h:sL x n=some r):xY P ρ a w (Instr.extract cx n) r:=by
 unfold sL at h
 split at h
 ·rename_i vs
  obtain ⟨ws,rfl,hw⟩:=hx.zZ
  split at h
  ·rename_i v hv
   cases h
   obtain ⟨u,hu,hr⟩:=hw.get (i:=n) (v:=v) (by simpa using hv)
   have hu':ws[n]?=some u:=by simpa using hu
   exact ⟨u,hr,fun w'=>by simp only [Instr.extract,hu',Sem.run_pure]⟩
  ·cases h
 ·cases h
theorem PI {w w1:World} (h:w1.heap=w.heap) (p:Addr):w1.cell? p=w.cell? p:=by unfold World.cell?;rw [h]
theorem Holds.heap {w w1:World} (h:w1.heap=w.heap) {L:CF} (hl:Holds L w):Holds L w1:=fun p hp=>(PI h p.1).trans (hl p hp)
theorem lI (l:List UInt8):fC (l.map fun b=>Value.int .u8 (b.toNat:Int))=true:=by
 rw [mG]
 intro v hv
 obtain ⟨b,_,rfl⟩:=List.mem_map.1 hv
 rfl
theorem nF {P:Program} {ρ:Rn} {a:A} {w:World} (hR:Rel P ρ a w) {x cx:Value} (hx:VR ρ x cx) {size n:Nat} {news:List Value} (h:cellsOf a size n x=some news):
  ∃ ns,LR ρ news ns∧ns.length=n*size∧∀ w1:World,w1.heap=w.heap→(Builtin.firstCells size n cx).run P w1= .ok ns.toArray w1:=by
 unfold cellsOf at h
 split at h
 ·rename_i l c
  split at h
  ·rename_i hz
   cases h
   obtain rfl:=hx.bW rfl
   have h0:=Nat.eq_of_beq_eq_true hz
   exact ⟨[],.nil,by simpa using h0.symm,fun w1 _=>run_firstCells_none w1 size n l c⟩
  ·cases h
 ·rename_i b o l k
  obtain ⟨c,rfl,hc,_⟩:=hx.fL
  split at h
  ·rename_i cs e m hb
   obtain ⟨ws,h1,h2,h3⟩:=hR.taken hb hc h
   refine ⟨ws,h1,h2,fun w1 hw1=>?_⟩
   exact run_firstCells_some w1 size n ⟨c,o,none⟩ l _ ws h2 (fun j v hv=>by rw [add_eq];exact iK.1 (h3.heap hw1) j v hv)
  ·cases h
 ·rename_i s
  obtain rfl:=hx.kW
  split at h
  ·rename_i hz
   cases h
   simp only [Bool.and_eq_true] at hz
   have h1:=Nat.eq_of_beq_eq_true hz.1
   have h2:=Nat.le_of_ble_eq_true hz.2
   subst h1
   have hlen:s.data.toList.length=s.size:=by simp
   refine ⟨_,.flat (lI _),by simp;omega,fun w1 _=>?_⟩
   simp only [Builtin.firstCells,Sem.run_pure]
   congr 1
   apply Array.toList_inj.1
   simp [ByteArray.data_extract]
  ·cases h
 ·cases h
theorem KZ {P:Program} {ρ:Rn} {x cx:Value} (hx:VR ρ x cx) {n:Nat} (h:TI x=some n) (w:World):(Builtin.lenOf cx).run P w= .ok n w:=by
 unfold TI at h
 split at h
 ·rename_i a n' k
  cases h
  cases hx with
  |flat _=>rfl
  |slice _ _=>rfl
 ·cases h
  obtain rfl:=hx.kW
  rfl
 ·cases h
theorem src_ok {P:Program} {ρ:Rn} {a:A} {w:World} (hR:Rel P ρ a w) {x cx:Value} (hx:VR ρ x cx) {tx:TypeId} {size n:Nat} {news:List Value} (hk:SM (P.underlying tx)=true) (hl:TI x=some n) (h:cellsOf a size n x=some news) (h1:news.all one=true):
  ∃ ns,LR ρ news ns∧ns.length=n*size∧Src P size tx cx n ns w:=by
 obtain ⟨ns,k1,k2,k3⟩:=nF hR hx h
 refine ⟨ns,k1,k2,⟨?_,fun w'=>KZ hx hl w',k3 w rfl,k3 w.drew rfl,k2,k1.one h1⟩⟩
 unfold SM at hk
 split at hk
 ·rename_i e he;exact .inl ⟨e,he⟩
 ·rename_i he;exact .inr he
 ·cases hk
theorem nI {P:Program} (w:World) (t tx ty e:TypeId) (i:TypeInfo) (ht:P.underlying t=some (.slice e)) (hi:P.info? e=some i) (base:Option Addr) (sLen sCap:Nat) (x:Value) (hs:Src P i.size tx x 0 [] w) (hroom:sLen≤sCap):
  (Builtin.append_ #[t,tx] ty #[.slice base sLen sCap,x]).run P w= .ok (.slice base sLen sCap) w:=by
 have hc:=hs.cells
 cases base <;> rcases hs.kind with ⟨e',hk⟩|hk <;> simp [Builtin.append_,run_underlying ht,run_underlying hk,sizeOf,typeInfo,hi,hs.len,hroom,hc,storeCells]
theorem mD {P:Program} (w w':World) (t tx ty e:TypeId) (i:TypeInfo) (ht:P.underlying t=some (.slice e)) (hi:P.info? e=some i) (b off sLen sCap:Nat) (x:Value) (n:Nat) (news:List Value) (hs:Src P i.size tx x n news w)
  (hroom:sLen+n≤sCap) (hst:(storeCells ⟨b,off+sLen*i.size,none⟩ news).run P w= .ok () w'):
  (Builtin.append_ #[t,tx] ty #[.slice (some ⟨b,off,none⟩) sLen sCap,x]).run P w= .ok (.slice (some ⟨b,off,none⟩) (sLen+n) sCap) w':=by
 rcases hs.kind with ⟨e',hk⟩|hk <;> simp [Builtin.append_,run_underlying ht,run_underlying hk,sizeOf,typeInfo,hi,hs.len,hroom,hs.cells,Addr.add_lit,hst]
structure FF (i:TypeInfo) (z:Value) (n m:Nat):Prop where
 flat:Abs.flat z=true
 bytes:(n+m)*i.bytes≤1073741824
 zs:z.cells.size=i.size
 sz:1≤i.size
 by1:1≤i.bytes
 pos:0<m
theorem wY {i:TypeInfo} {z:Value} {n m:Nat} {news:List Value} (h:KL i z n m news=true):FF i z n m∧news.all one=true:=by
 simp only [KL,Bool.and_eq_true] at h
 obtain ⟨⟨⟨⟨⟨⟨h1,h2⟩,h3⟩,h4⟩,h5⟩,h6⟩,h7⟩:=h
 exact ⟨⟨h1,Nat.le_of_ble_eq_true h2,by simpa using Nat.eq_of_beq_eq_true h4,Nat.le_of_ble_eq_true h5,Nat.le_of_ble_eq_true h6,by simpa [Nat.blt_eq] using h7⟩,h3⟩
theorem FF.le {i:TypeInfo} {z:Value} {n m:Nat} (h:FF i z n m):n+m≤1073741824:=Nat.le_trans (Nat.le_mul_of_pos_right _ h.by1) h.bytes
theorem rU {P:Program} {ρ:Rn} {a:A} {w:World} (hR:Rel P ρ a w) (hn:ρ.bI a.next=none) {t tx ty elem:TypeId} {i:TypeInfo} {z:Value} (ht:P.underlying t=some (.slice elem)) (hi:P.info? elem=some i) (hz:i.zero=some z) {n m:Nat} (ho:FF i z n m)
  {olds news co cn:List Value} (h1:LR ρ olds co) (h2:LR ρ news cn) (l1:co.length=n*i.size) (l2:cn.length=m*i.size) {base:Option Addr} {sCap:Nat} (hg:sCap<n+m)
  (hold:(Builtin.firstCells i.size n (.slice base n sCap)).run P w.drew= .ok co.toArray w.drew) {cx:Value} (hs:Src P i.size tx cx m cn w) {r:R1} (h:qD a elem n m olds news=some r):
  xY P ρ a w (Builtin.append_ #[t,tx] ty #[.slice base n sCap,cx]) r:=by
 unfold qD at h
 split at h
 ·rename_i b a' hnr
  cases h
  have hle:=ho.le
  have hbytes:=ho.bytes
  have hnc:Builtin.nextslicecap (n+m) sCap≤2*(n+m):=nextslicecap_le hg
  have hfit:Builtin.nextslicecap (n+m) sCap*i.bytes≤281474976710656:=by
   have h1:=Nat.mul_le_mul_right i.bytes hnc
   rw [Nat.mul_assoc] at h1
   omega
  have hrun:=run_append_grow_src w t tx ty elem i z ht hi hz base n sCap co hold cx m cn hs hg (by omega) hfit
  have hge:=grownCap_ge w (n+m) sCap elem
  have hcm:grownCap w (n+m) sCap elem≤maxLen:=grownCap_le_maxLen w (n+m) sCap elem (by unfold maxLen;omega)
  generalize grownCap w (n+m) sCap elem=G at hrun hge hcm
  have hsz:(((co++cn).toArray++Builtin.zeroCells z.cells (G - (n+m)):Array Value)).size=G*i.size:=by
   simp only [Array.size_append,List.size_toArray,List.length_append,size_zeroCells,ho.zs,l1,l2,← Nat.add_mul]
   congr 1
   omega
  obtain ⟨rfl,σ,s1,s2,s3,s4,s5⟩:=mC (w1:=w.drew) hR hn hnr (C:=(co++cn).toArray++Builtin.zeroCells z.cells (G - (n+m))) ⟨co++cn,(Builtin.zeroCells z.cells (G - (n+m))).toList,by simp,h1.append h2⟩ G rfl rfl rfl rfl (fun _=>⟨i,hi,hsz,hcm⟩) (by simp)
  refine ⟨_,_,σ,hrun,?_,s4,.inr s5⟩
  have hcap:cJ σ a.next 1=G:=by simp [cJ,s3]
  have:=VR.slice (o:=0) (n:=n+m) (k:=1) s2 (by rw [hcap];exact hge)
  rw [hcap] at this
  exact this
 ·cases h
theorem St.alias {P:Program} {ρ:Rn} {a:A} {w w':World} (hR:Rel P ρ a w) (hr:a.room=true) (hn:ρ.bI a.next=none) {b c:Nat} {o0:AO} (hb:a.get b=some o0) (hc:ρ.bI b=some c) (hlt:b+1<1099511627776) (o:AO) (hwr:wr o0) (hmd:Md (fun k=>k=c) w w')
  (ho:∀ σ:Rn,ρ.le σ→σ.cap a.next=ρ.cap b→OR P σ a.next o w'.heap[c]?):
  ∃ σ:Rn,ρ.le σ∧σ.bI a.next=some c∧σ.cap a.next=ρ.cap b∧St P (fun b=>b=a.next) ρ a w σ ((a.put b none).new o) w':=by
 obtain ⟨σ,hσ⟩:∃ σ:Rn,σ=⟨fun k=>if k=a.next then some c else ρ.bI k,fun k=>if k=a.next then ρ.cap b else ρ.cap k⟩:=⟨_,rfl⟩
 have e1:σ.bI a.next=some c:=by rw [hσ];simp
 have e2:σ.cap a.next=ρ.cap b:=by rw [hσ];simp
 have e3:∀ k,k≠a.next→σ.bI k=ρ.bI k∧σ.cap k=ρ.cap k:=fun k hk=>by rw [hσ];simp [hk]
 have hl:ρ.le σ:=fun k d hk=>by
  have hne:k≠a.next:=fun e=>by rw [e,hn] at hk;cases hk
  exact ⟨(e3 k hne).1.trans hk,(e3 k hne).2⟩
 have hL:Live ρ a c:=⟨b,o0,hb,hwr,hc⟩
 have hg:∀ k,((a.put b none).new o).get k=if k=a.next then some o else if k=b then none else a.get k:=fun k=>by
  have h1:=pF (a.put b none) o k hr
  rw [get_put a b none k hlt] at h1
  exact h1
 refine ⟨σ,hl,e1,e2,fun k hk=>e3 k hk,⟨fun k x hk=>?_,fun k k' d hk hk' hd hd'=>?_⟩,⟨hmd.os,hmd.tape,hmd.output,hmd.size,fun i hi hni=>hmd.block i hi (fun e=>hni (by rw [e];exact hL))⟩,fun d hd=>?_,fun d hd=>?_⟩
 ·rw [hg] at hk
  by_cases he:k=a.next
  ·rw [if_pos he] at hk;cases hk
   subst he
   exact ⟨c,e1,ho σ hl e2⟩
  ·rw [if_neg he] at hk
   by_cases hkb:k=b
   ·rw [if_pos hkb] at hk;cases hk
   ·rw [if_neg hkb] at hk
    obtain ⟨d,hd,hor⟩:=hR.obj k x hk
    refine ⟨d,(hl k d hd).1,?_⟩
    rw [hmd.block d (hR.lt (by rw [hk];simp) hd) (fun e=>hkb (hR.inj k b c (by rw [hk];simp) (by rw [hb];simp) (e▸hd) hc))]
    exact hor.mono hl (hl k d hd).2
 ·rw [hg] at hk
  rw [hg] at hk'
  by_cases he:k=a.next <;> by_cases he':k'=a.next
  ·rw [he,he']
  ·exfalso
   rw [he,e1] at hd;cases hd
   rw [if_neg he'] at hk'
   by_cases hkb:k'=b
   ·rw [if_pos hkb] at hk';exact hk' rfl
   ·rw [if_neg hkb] at hk'
    rw [(e3 k' he').1] at hd'
    exact hkb (hR.inj k' b c hk' (by rw [hb];simp) hd' hc)
  ·exfalso
   rw [he',e1] at hd';cases hd'
   rw [if_neg he] at hk
   by_cases hkb:k=b
   ·rw [if_pos hkb] at hk;exact hk rfl
   ·rw [if_neg hkb] at hk
    rw [(e3 k he).1] at hd
    exact hkb (hR.inj k b c hk (by rw [hb];simp) hd hc)
  ·rw [if_neg he] at hk
   rw [if_neg he'] at hk'
   by_cases hkb:k=b
   ·rw [if_pos hkb] at hk;exact absurd rfl hk
   ·by_cases hkb':k'=b
    ·rw [if_pos hkb'] at hk';exact absurd rfl hk'
    ·rw [if_neg hkb] at hk
     rw [if_neg hkb'] at hk'
     rw [(e3 k he).1] at hd
     rw [(e3 k' he').1] at hd'
     exact hR.inj k k' d hk hk' hd hd'
 ·obtain ⟨k,x,hk,hx,hkd⟩:=hd
  rw [hg] at hk
  by_cases he:k=a.next
  ·rw [he,e1] at hkd;cases hkd
   exact .inl hL
  ·rw [if_neg he] at hk
   by_cases hkb:k=b
   ·rw [if_pos hkb] at hk;cases hk
   ·rw [if_neg hkb] at hk
    rw [(e3 k he).1] at hkd
    exact .inl ⟨k,x,hk,hx,hkd⟩
 ·obtain ⟨k,x,hk,hx,hkd⟩:=hd
  rw [hg] at hk
  by_cases he:k=a.next
  ·rw [he,e1] at hkd;cases hkd
   exact .inl ⟨b,o0,hb,trivial,hc⟩
  ·rw [if_neg he] at hk
   by_cases hkb:k=b
   ·rw [if_pos hkb] at hk;cases hk
   ·rw [if_neg hkb] at hk
    rw [(e3 k he).1] at hkd
    exact .inl ⟨k,x,hk,hx,hkd⟩
theorem St.TM {P:Program} {N:Nat→Prop} {ρ σ:Rn} {a a':A} {w w':World} {b:Nat} (hlt:b+1<1099511627776) (h:St P N ρ (a.put b none) w σ a' w') (hR:Rel P ρ a w):St P N ρ a w σ a' w':=by
 have hlive:∀ c,Live ρ (a.put b none) c→Live ρ a c:=fun c hc=>by
  obtain ⟨k,x,hk,hx,hkc⟩:=hc
  rw [get_put a b none k hlt] at hk
  by_cases he:k=b
  ·rw [if_pos he] at hk;cases hk
  ·rw [if_neg he] at hk
   exact ⟨k,x,hk,hx,hkc⟩
 have hname:∀ c,pS ρ (a.put b none) c→pS ρ a c:=fun c hc=>by
  obtain ⟨k,x,hk,hx,hkc⟩:=hc
  rw [get_put a b none k hlt] at hk
  by_cases he:k=b
  ·rw [if_pos he] at hk;cases hk
  ·rw [if_neg he] at hk
   exact ⟨k,x,hk,hx,hkc⟩
 exact ⟨h.ext,h.rel,⟨h.md.os,h.md.tape,h.md.output,h.md.size,fun i hi hn=>h.md.block i hi (fun hl=>hn (hlive i hl))⟩,fun c hc=>(h.own c hc).imp (hlive c) id,fun c hc=>(h.names c hc).imp (hname c) id⟩
theorem S7 {P:Program} {ρ:Rn} {a:A} {w:World} (hR:Rel P ρ a w) (hn:ρ.bI a.next=none) {t tx ty elem:TypeId} {i:TypeInfo} {z:Value} (ht:P.underlying t=some (.slice elem)) (hi:P.info? elem=some i) (hz:i.zero=some z) {b o n k m:Nat} (ho:FF i z n m)
  {news cn:List Value} (h2:LR ρ news cn) (l2:cn.length=m*i.size) (h1:news.all one=true) {cs cx:Value} (hv:VR ρ (.slice (some ⟨b,o,none⟩) n k) cs) (hs:Src P i.size tx cx m cn w) {r:R1} (h:P4 a elem i.size b o n k m news=some r):
  xY P ρ a w (Builtin.append_ #[t,tx] ty #[cs,cx]) r:=by
 obtain ⟨c,rfl,hc,hcap⟩:=hv.fL
 unfold P4 at h
 split at h
 ·rename_i hk
  have hk0:cJ ρ b k=k / 2:=by
   have:=Nat.eq_of_beq_eq_true hk
   simp [cJ,this]
  split at h
  ·rename_i hfit
   have hle:=Nat.le_of_ble_eq_true hfit
   split at h
   ·rename_i a' hl
    cases h
    obtain ⟨w',s1,s2,s3⟩:=qN hR hc h2 hl
    refine ⟨_,w',ρ,mD w w' t tx ty elem i ht hi c o n _ cx m cn hs (by rw [hk0];exact hle) s1,.slice hc (by rw [hk0];exact hle),s2.wide (fun _ hf=>hf.elim),.inl ⟨s3,rfl⟩⟩
   ·cases h
  ·rename_i hfit
   have hgt:cJ ρ b k<n+m:=by
    rw [hk0]
    rcases Nat.lt_or_ge (k / 2) (n+m) with h|h
    ·exact h
    ·rw [Nat.ble_eq_true_of_le h] at hfit;cases hfit
   split at h
   ·rename_i cs' e md hb
    split at h
    ·rename_i olds hto
     obtain ⟨co,k1,k2,k3⟩:=hR.taken hb hc hto
     exact rU hR hn ht hi hz ho k1 h2 k2 l2 hgt (run_firstCells_some w.drew i.size n ⟨c,o,none⟩ n _ co k2 (fun j v hv=>by rw [add_eq];exact iK.1 k3 j v hv)) hs h
    ·cases h
   ·cases h
 ·split at h
  ·rename_i cs' e md hb
   split at h
   ·rename_i olds hq hto
    simp only [Bool.and_eq_true] at hq
    obtain ⟨⟨⟨⟨q1,q2⟩,q3⟩,q4⟩,q5⟩:=hq
    obtain rfl:=Nat.eq_of_beq_eq_true q1
    obtain rfl:=Nat.eq_of_beq_eq_true q2
    obtain rfl:=Nat.eq_of_beq_eq_true q3
    obtain rfl:=Nat.eq_of_beq_eq_true q4
    have hlt:b+1<1099511627776:=by
     simp only [Nat.blt_eq] at q5
     omega
    have hcap1:cJ ρ b 1=ρ.cap b:=by simp [cJ]
    rw [hcap1] at hcap ⊢
    obtain ⟨co,k1,k2,k3⟩:=hR.taken hb hc hto
    by_cases hfit:n+m≤ρ.cap b
    · -- there is room
     obtain ⟨C,fr,g1,g2,g3,g4,g5⟩:=hR.row hb hc
     obtain rfl:=g3 (by decide)
     obtain ⟨i',gi,gs,gm⟩:=g4 rfl
     rw [hi] at gi;cases gi
     have hroom:n*i.size+cn.length≤C.size:=by
      rw [l2,gs,← Nat.add_mul]
      exact Nat.mul_le_mul_right _ hfit
     have hst:=run_storeCells_at P c (n*i.size) e cn 0 C w g1 (by simpa using hroom) (h2.one h1)
     simp only [Nat.add_zero] at hst
     unfold qD at h
     split at h
     ·rename_i b' a' hnr
      cases h
      unfold Abs.newRow at hnr
      split at hnr
      ·rename_i hr
       cases hnr
       have hpl:PL ρ (olds++news) (C.toList.take (n*i.size)++cn++C.toList.drop (n*i.size+cn.length)):=by
        refine ⟨C.toList.take (n*i.size)++cn,C.toList.drop (n*i.size+cn.length),rfl,LR.append ?_ h2⟩
        have hco:co=C.toList.take (n*i.size):=by
         apply List.ext_getElem?
         intro j
         rcases Nat.lt_or_ge j (n*i.size) with hj|hj
         ·have hjl:j<co.length:=by omega
          have:=iK.1 k3 j co[j] (by simp [hjl])
          rw [cell_of_row w c (0+j) C e _ g1] at this
          rw [List.getElem?_eq_getElem hjl,List.getElem?_take,if_pos hj]
          simpa using this.symm
         ·rw [List.getElem?_eq_none (by omega),List.getElem?_eq_none (by simp;omega)]
        rw [← hco];exact k1
       obtain ⟨σ,s1,s2,s3,s4⟩:=St.alias hR hr hn hb hc hlt (.row (olds++news) e 1) (by show (1:Nat)≠2;decide) (Md.setRow (S:=fun k=>k=c) w rfl (C.toList.take (n*i.size)++cn++C.toList.drop (n*i.size+cn.length)).toArray) (fun σ hl hcp=>by
        rw [setRow_heap w c C _ e (0,0) g1]
        refine ⟨_,_,rfl,(by simpa using hpl.mono hl),fun _=>rfl,fun _=>⟨i,hi,?_,by rw [hcp];exact gm⟩,(fun h=>by cases h)⟩
        rw [hcp,← gs]
        simp
        omega)
       refine ⟨_,_,σ,mD w _ t tx ty e i ht hi c 0 n _ cx m cn hs hfit (by simpa using hst),?_,s4,.inr rfl⟩
       have hcap':cJ σ a.next 1=ρ.cap b:=by simp [cJ,s3]
       have:=VR.slice (o:=0) (n:=n+m) (k:=1) s2 (by rw [hcap'];exact hfit)
       rw [hcap'] at this
       exact this
      ·cases hnr
     ·cases h
    ·have hd:=hR.drop b hlt
     have:=rU (a:=a.put b none) hd.1 hn ht hi hz ho k1 h2 k2 l2 (sCap:=ρ.cap b) (base:=some ⟨c,0,none⟩) (ty:=ty) (by omega) (run_firstCells_some w.drew i.size n ⟨c,0,none⟩ n _ co k2 (fun j v hv=>by rw [add_eq];exact iK.1 k3 j v hv)) hs h
     unfold qD at h
     split at h
     ·cases h
      obtain ⟨cv,w',σ,r1,r2,r3,r4⟩:=this
      exact ⟨cv,w',σ,r1,r2,r3.TM hlt hR,r4⟩
     ·cases h
   ·cases h
  ·cases h
theorem PQ {P:Program} {ρ:Rn} {a:A} {w:World} (hR:Rel P ρ a w) (hn:ρ.bI a.next=none) {t tx ty:TypeId} {s cs x cx:Value} (hs:VR ρ s cs) (hx:VR ρ x cx) {r:R1} (h:wT P a t tx s x=some r):xY P ρ a w (Builtin.append_ #[t,tx] ty #[cs,cx]) r:=by
 unfold wT at h
 split at h
 ·rename_i elem m ht hk hl
  split at h
  ·rename_i i hi
   split at h
   ·rename_i z news hz hc
    split at h
    ·rename_i h0
     cases h
     obtain rfl:=hs.bW rfl
     have hm:=Nat.eq_of_beq_eq_true h0
     subst hm
     obtain ⟨ns,k1,k2,k3⟩:=nF hR hx hc
     have hns:ns= []:=List.eq_nil_of_length_eq_zero (by simpa using k2)
     subst hns
     cases k1
     obtain ⟨ns',j1,j2,j3⟩:=src_ok hR hx hk hl hc rfl
     cases j1
     exact ⟨_,w,ρ,nI w t tx ty elem i ht hi none 0 0 cx j3 (Nat.le_refl _),.flat rfl,St.refl hR,.inl ⟨rfl,rfl⟩⟩
    ·rename_i b o n k h0
     cases h
     have hm:=Nat.eq_of_beq_eq_true h0
     subst hm
     obtain ⟨ns,k1,k2,k3⟩:=nF hR hx hc
     have hns:ns= []:=List.eq_nil_of_length_eq_zero (by simpa using k2)
     subst hns
     cases k1
     obtain ⟨ns',j1,j2,j3⟩:=src_ok hR hx hk hl hc rfl
     cases j1
     obtain ⟨c,rfl,q1,q2⟩:=hs.fL
     exact ⟨_,w,ρ,nI w t tx ty elem i ht hi _ n _ cx j3 q2,hs,St.refl hR,.inl ⟨rfl,rfl⟩⟩
    ·split at h
     ·rename_i hok
      obtain ⟨ho,h1⟩:=wY hok
      obtain rfl:=hs.bW rfl
      obtain ⟨ns,j1,j2,j3⟩:=src_ok hR hx hk hl hc h1
      exact rU hR hn ht hi hz ho .nil j1 (by simp) j2 (by have:=ho.pos;omega) (run_firstCells_none w.drew i.size 0 0 0) j3 h
     ·cases h
    ·split at h
     ·rename_i hok
      obtain ⟨ho,h1⟩:=wY hok
      obtain ⟨ns,j1,j2,j3⟩:=src_ok hR hx hk hl hc h1
      exact S7 hR hn ht hi hz ho j1 j2 h1 hs j3 h
     ·cases h
    ·cases h
   ·cases h
  ·cases h
 ·cases h
theorem V0 {P:Program} {ρ:Rn} {a:A} {w:World} (hR:Rel P ρ a w) {t ty:TypeId} {ts:List TypeId} {d cd s cs:Value} (hd:VR ρ d cd) (hs:VR ρ s cs) {r:R1} (h:JJ P a t d s=some r):xY P ρ a w (Builtin.copy_ (t :: ts).toArray ty #[cd,cs]) r:=by
 unfold JJ at h
 split at h
 ·rename_i elem b o n k m ht hl
  obtain ⟨c,rfl,hc,_⟩:=hd.fL
  split at h
  ·rename_i i hi
   split at h
   ·rename_i cells hcl
    split at h
    ·rename_i a' hla
     cases h
     obtain ⟨ns,k1,k2,k3⟩:=nF hR hs hcl
     obtain ⟨w',s1,s2,s3⟩:=qN hR hc k1 hla
     refine ⟨_,w',ρ,?_,.flat rfl,s2.wide (fun _ hf=>hf.elim),.inl ⟨s3,rfl⟩⟩
     simp [Builtin.copy_,run_underlying ht,KZ hs hl,eP hi,k3 w rfl,s1]
    ·cases h
   ·cases h
  ·cases h
 ·cases h
theorem LR.set {ρ:Rn} :∀ {l m:List Value},LR ρ l m→∀ (n:Nat) {v w:Value},VR ρ v w→LR ρ (l.set n v) (m.set n w)
 |_,_,.nil,n,_,_,_=>by simpa using .nil
 |_,_,.cons h ht,0,_,_,hv=>by simpa using .cons hv ht
 |_,_,.cons h ht,n+1,_,_,hv=>by simpa using .cons h (LR.set ht n hv)
theorem LC {ρ:Rn} (off:Nat):∀ {l m:List Value},LR ρ l m→∀ (k:Nat) {cs ds:Array Value},LR ρ cs.toList ds.toList→
  LR ρ ((l.zipIdx k).foldl (fun cs (p:Value × Nat)=>cs.setIfInBounds (off+p.2) p.1) cs).toList ((m.zipIdx k).foldl (fun cs (p:Value × Nat)=>cs.setIfInBounds (off+p.2) p.1) ds).toList
 |_,_,.nil,k,_,_,h=>h
 |_,_,.cons h ht,k,cs,ds,hc=>by
  simp only [List.zipIdx_cons,List.foldl_cons]
  refine LC off ht (k+1) ?_
  simpa using hc.set (off+k) h
theorem uQ {ρ:Rn} (place:Nat→Option (Nat × Nat)) {f g:Operand→Value} :∀ (ps:List (Nat × Operand)) (hfg:∀ p,p∈ps→VR ρ (f p.2) (g p.2)) {cs ds out:Array Value},LR ρ cs.toList ds.toList→Instr.fill place cs (ps.map fun p=>(p.1,f p.2))=some out→
  ∃ o2,Instr.fill place ds (ps.map fun p=>(p.1,g p.2))=some o2∧LR ρ out.toList o2.toList
 | [],_,cs,ds,out,hc,h=>by
  simp only [List.map_nil,Instr.fill,Option.some.injEq] at h
  subst h
  exact ⟨ds,by simp [Instr.fill],hc⟩
 |p :: ps,hfg,cs,ds,out,hc,h=>by
  simp only [List.map_cons,Instr.fill] at h ⊢
  have hp:=hfg p List.mem_cons_self
  have hcells:=hp.cells
  have hsz:(g p.2).cells.size=(f p.2).cells.size:=by have:=hcells.length;simpa using this.symm
  have hcs:ds.size=cs.size:=by have:=hc.length;simpa using this.symm
  cases hpl:place p.1 with
  |none=>rw [hpl] at h;cases h
  |some q=>
   obtain ⟨off,size⟩:=q
   rw [hpl] at h
   simp only [] at h ⊢
   rw [hsz,hcs]
   split at h
   ·cases h
   ·rename_i hcond
    rw [if_neg hcond]
    refine uQ place ps (fun q hq=>hfg q (List.mem_cons_of_mem _ hq)) ?_ h
    have:=LC off hcells 0 hc
    rw [← Array.foldl_toList,← Array.foldl_toList]
    simpa using this
theorem AP {P:Program} :∀ {l:List Field} {ps:List (Nat × Nat)},placesOf P l=some ps→∀ w:World,(l.mapM fun f=>do pure (f.offset,← sizeOf f.type):Sem (List (Nat × Nat))).run P w= .ok ps w
 | [],ps,h,w=>by simp [placesOf] at h;subst h;simp
 |f :: l,ps,h,w=>by
  simp only [placesOf] at h
  split at h
  ·rename_i i qs hi hq
   cases h
   have ih:=AP hq w
   simp only [List.mapM_cons,Sem.run_bind,eP hi,Result.andThen_ok,Sem.run_pure,ih]
  ·cases h
theorem TF {P:Program} {ρ:Rn} {a:A} {w:World} {t:TypeId} {ps:Array (Nat × Operand)} {f g:Operand→Value} (hfg:∀ p,p∈ps.toList→VR ρ (f p.2) (g p.2)) {r:R1} (h:CB P t (ps.toList.map fun p=>(p.1,f p.2))=some r):
  xY P ρ a w (Instr.build t (ps.map fun (i,x)=>(i,g x))) r:=by
 have he:(ps.map fun (i,x)=>(i,g x)).toList=ps.toList.map fun p=>(p.1,g p.2):=by simp
 unfold CB at h
 split at h
 ·rename_i i hi
  split at h
  ·rename_i z hz
   split at h
   ·rename_i hf
    have hzr:LR ρ z.cells.toList z.cells.toList:=(VR.flat (ρ:=ρ) hf).cells
    split at h
    ·rename_i fields hd
     split at h
     ·rename_i pl hpl
      split at h
      ·rename_i cells hfill
       cases h
       obtain ⟨o2,h1,h2⟩:=uQ (ρ:=ρ) _ ps.toList hfg hzr hfill
       refine ⟨.agg o2,.agg h2,fun w'=>?_⟩
       have hp:=AP hpl w'
       simp only [Instr.build,Sem.run_bind,oU hi hz,Result.andThen_ok,bH hd]
       rw [Array.mapM_eq_mapM_toList]
       simp only [Sem.run_map,hp,Result.andThen_ok,he,h1,Sem.run_pure]
      ·cases h
     ·cases h
    ·rename_i n elem hd
     split at h
     ·rename_i j hj
      split at h
      ·rename_i cells hfill
       cases h
       obtain ⟨o2,h1,h2⟩:=uQ (ρ:=ρ) _ ps.toList hfg hzr hfill
       refine ⟨.agg o2,.agg h2,fun w'=>?_⟩
       simp only [Instr.build,Sem.run_bind,oU hi hz,Result.andThen_ok,bH hd,eP hj,he,h1,Sem.run_pure]
      ·cases h
     ·cases h
    ·cases h
   ·cases h
  ·cases h
 ·cases h
theorem nV {z:Value} (hf:Abs.flat z=true) (n:Nat):fC (zeroCells z n).toList=true:=by
 have hz:fC z.cells.toList=true:=by
  cases z <;> first|(simpa [Value.cells,fC] using hf)|(simpa [Value.cells,Abs.flat,jH] using hf)
 rw [mG]
 intro v hv
 simp only [zeroCells,Array.toList_map,List.mem_map] at hv
 obtain ⟨k,_,rfl⟩:=hv
 by_cases hk:k % z.cells.size<z.cells.size
 ·simp only [getElem!_def,Array.getElem?_eq_getElem hk]
  exact mG.1 hz _ (by simp)
 ·simp only [getElem!_def,Array.getElem?_eq_none (by omega:z.cells.size≤k % z.cells.size)]
  rfl
theorem yQ {P:Program} {ρ:Rn} {a:A} {w:World} (hR:Rel P ρ a w) (hn:ρ.bI a.next=none) {t:TypeId} {len:Nat} {ps:Array (Nat × Operand)} {f g:Operand→Value} (hfg:∀ p,p∈ps.toList→VR ρ (f p.2) (g p.2)) {r:R1}
  (h:nC P a t len (ps.toList.map fun p=>(p.1,f p.2))=some r):xY P ρ a w (Instr.buildSlice t len (ps.map fun (i,x)=>(i,g x))) r:=by
 have he:(ps.map fun (i,x)=>(i,g x)).toList=ps.toList.map fun p=>(p.1,g p.2):=by simp
 unfold nC at h
 split at h
 ·rename_i elem hd
  split at h
  ·rename_i i hi
   split at h
   ·rename_i z hz
    split at h
    ·rename_i hf hb
     have hle:=Nat.le_of_ble_eq_true hb
     split at h
     ·rename_i cells hfill
      split at h
      ·rename_i b a' hnr
       cases h
       obtain ⟨o2,h1,h2⟩:=uQ (ρ:=ρ) _ ps.toList hfg (LR.flat (nV hf (len*i.size))) hfill
       obtain ⟨rfl,σ,s1,s2,s3,s4,s5⟩:=mC (w1:=w) hR hn hnr (PL.all h2) 0 rfl rfl rfl rfl (by simp) (fun _=>by have:=h2.length;simpa using this.symm)
       have hcap:cJ σ a.next (2*len)=len:=by simp [cJ]
       have hv:=VR.slice (o:=0) (n:=len) (k:=2*len) s2 (by rw [hcap];exact Nat.le_refl _)
       rw [hcap] at hv
       refine ⟨_,_,σ,?_,hv,s4,.inr s5⟩
       have hgt:¬ (len*i.size > 2 ^ 24):=by omega
       simp only [Instr.buildSlice,Sem.run_bind,bH hd,eP hi,Result.andThen_ok,if_neg hgt,he]
       by_cases h0:len*i.size=0
       ·rw [if_pos h0]
        have hcs:(Array.range (len*i.size)).map ((#[]:Array Value)[·% (#[]:Array Value).size]!)=zeroCells z (len*i.size):=by rw [h0];simp [zeroCells]
        simp only [Sem.run_bind,Sem.run_pure,Result.andThen_ok,hcs,h1,iV]
       ·rw [if_neg h0]
        have hcs:(Array.range (len*i.size)).map (z.cells[·% z.cells.size]!)=zeroCells z (len*i.size):=rfl
        simp only [Sem.run_bind,oU hi hz,Sem.run_pure,Result.andThen_ok,hcs,h1,iV]
      ·cases h
     ·cases h
    ·cases h
   ·cases h
  ·cases h
 ·cases h
theorem BI {P:Program} {ρ:Rn} {a:A} {w:World} (hR:Rel P ρ a w) (hn:ρ.bI a.next=none) {t:TypeId} {l cl c cc:Value} (hl:VR ρ l cl) (hc:VR ρ c cc) {r:R1} (h:nW P a t l c=some r):xY P ρ a w (Instr.makeSlice t cl cc) r:=by
 unfold nW at h
 split at h
 ·rename_i elem l c hd
  obtain rfl:=hl.eT
  obtain rfl:=hc.eT
  split at h
  ·rename_i i hi
   split at h
   ·rename_i z hz
    split at h
    ·rename_i hf hb
     simp only [Bool.and_eq_true] at hb
     have b1:=Nat.le_of_ble_eq_true hb.1.1
     have b2:=Nat.le_of_ble_eq_true hb.1.2
     have b3:=Nat.le_of_ble_eq_true hb.2
     split at h
     ·rename_i b a' hnr
      cases h
      obtain ⟨rfl,σ,s1,s2,s3,s4,s5⟩:=mC (w1:=w) hR hn hnr (PL.all (LR.flat (nV hf (c*i.size)))) 0 rfl rfl rfl rfl (by simp) (fun _=>by simp)
      have hcap:cJ σ a.next (2*c)=c:=by simp [cJ]
      have hv:=VR.slice (o:=0) (n:=l) (k:=2*c) s2 (by rw [hcap];exact b1)
      rw [hcap] at hv
      refine ⟨_,_,σ,?_,hv,s4,.inr s5⟩
      have w1:IntKind.i64.wrap (Int.ofNat l)=(l:Int):=by
       rw [IntKind.wrap_i64];show ((l:Int)+_) % _ - _=_;omega
      have w2:IntKind.i64.wrap (Int.ofNat c)=(c:Int):=by
       rw [IntKind.wrap_i64];show ((c:Int)+_) % _ - _=_;omega
      have m1:i.bytes*c≤4096*1048576:=Nat.mul_le_mul b3 b2
      have m2:((i.bytes:Int)*(c:Int))=((i.bytes*c:Nat):Int):=by simp
      have t1:¬ ((c:Int)<0):=by omega
      have t2:¬ (((i.bytes*c:Nat):Int) > 2 ^ 48):=by omega
      have t3:¬ ((l:Int)<0):=by omega
      have t4:¬ ((l:Int) > (c:Int)):=by omega
      simp only [Instr.makeSlice,Sem.run_bind,bH hd,Result.andThen_ok,asInt,iE,Sem.run_pure,EH hi,w1,w2,m2,decide_eq_false t1,decide_eq_false t2,decide_eq_false t3,decide_eq_false t4,Bool.or_false,Bool.false_eq_true,if_false,run_askRoom,Int.toNat_natCast,eP hi]
      by_cases h0:c*i.size=0
      ·rw [if_pos h0]
       have hcs:(Array.range (c*i.size)).map ((#[]:Array Value)[·% (#[]:Array Value).size]!)=zeroCells z (c*i.size):=by rw [h0];simp [zeroCells]
       simp only [Sem.run_bind,Sem.run_pure,Result.andThen_ok,hcs,iV]
      ·rw [if_neg h0]
       have hcs:(Array.range (c*i.size)).map (z.cells[·% z.cells.size]!)=zeroCells z (c*i.size):=rfl
       simp only [Sem.run_bind,oU hi hz,Sem.run_pure,Result.andThen_ok,hcs,iV]
     ·cases h
    ·cases h
   ·cases h
  ·cases h
 ·cases h
theorem oO {α:Type} {P:Program} :∀ {s:Sem α} {v:α},jC P s=some v→∀ w,s.run P w= .ok v w:=by
 intro s
 induction s with
 |pure a=>intro v h w;simp [jC] at h;subst h;rfl
 |program k ih=>intro v h w;simp only [jC] at h;exact ih P h w
 |mark m k ih=>intro v h w;simp only [jC] at h;exact ih h w
 |_=>intro v h;simp [jC] at h
def wN (P:Program) (ρ:Rn) (a:A) (w:World) (s:Sem Next):R1→Prop
 | .pu v=>∃ cv,VR ρ v cv∧∀ w,s.run P w= .ok (.value cv) w
 | .rd v fs=>∃ cv L,VR ρ v cv∧FR ρ fs L∧Holds L w∧∀ w',Holds L w'→s.run P w'= .ok (.value cv) w'
 | .act v a'=>∃ n cv w' σ,s.run P w= .ok n w'∧(n= .value cv∨n= .skip∧cv=undef)∧VR σ v cv∧St P (fun b=>b=a.next) ρ a w σ a' w'∧(a'.next=a.next∧σ=ρ∨a'.next=a.next+1)
 | .cl f args=>∃ cargs:Array Value,LR ρ args cargs.toList∧∀ w,s.run P w= .ok (.enter f cargs) w
theorem xY.lift {P:Program} {ρ:Rn} {a:A} {w:World} {s:Sem Value} {r:R1} (h:xY P ρ a w s r):wN P ρ a w (do pure (.value (← s))) r:=by
 cases r with
 |pu v=>
  obtain ⟨cv,h1,h2⟩:=h
  exact ⟨cv,h1,fun w'=>by simp [h2 w']⟩
 |rd v fs=>
  obtain ⟨cv,L,h1,h2,h3,h4⟩:=h
  exact ⟨cv,L,h1,h2,h3,fun w' hw=>by simp [h4 w' hw]⟩
 |act v a'=>
  obtain ⟨cv,w',σ,h1,h2,h3,h4⟩:=h
  exact ⟨.value cv,cv,w',σ,by simp [h1],.inl rfl,h2,h3,h4⟩
 |cl f args=>exact h.elim
structure l4 (ρ:Rn) (o:Oper) (t:Fr) (c:Act):Prop where
 ev:∀ x,x∈o.op.operands.toList→VR ρ (Abs.ev t x) (c.eval x)
theorem sC {β:Type} (n:Nat) (k:Nat→β):sJ n k=k n:=by cases n <;> rfl
theorem MX {β:Type} (n:Int) (k:Int→β):J8 n k=k n:=by cases n <;> simp [J8,sC]
theorem xP {β:Type} :∀ (l:List UInt8) (k:List UInt8→β),uO l k=k l
 | [],k=>rfl
 |b :: l,k=>by
  show sJ b.toNat (fun n=>uO l fun l=>k (UInt8.ofNat n :: l))=_
  rw [sC,xP l]
  simp
theorem AH (v:Value):D4 v=some (.pu v):=by
 cases v with
 |int k n=>simp [D4,MX]
 |bool b=>cases b <;> rfl
 |string s=>
  obtain ⟨⟨l⟩⟩:=s
  show uO l (fun l=>some (R1.pu (.string ⟨⟨l⟩⟩)))=_
  rw [xP]
 |_=>rfl
theorem KW:∀ (l:List UInt8) (n:Nat),YT l n=l[n]?
 | [],n=>by simp [YT]
 |b :: l,0=>rfl
 |b :: l,n+1=>by
  show YT l n=_
  rw [KW l n]
  simp
theorem eK {P:Program} {ρ:Rn} {a:A} {w:World} {o:Oper} {t:Fr} {c:Act} (hs:l4 ρ o t c) {r:R1} (h:fO P o t=some r):wN P ρ a w (execOp c.eval o) r:=by
 unfold fO at h
 split at h
 ·rename_i hfl
  simp only [Bool.and_eq_true,Bool.not_eq_true',List.all_eq_true] at hfl
  split at h
  ·rename_i v hv
   split at h
   ·rename_i hf
    rw [AH] at h
    cases h
    have he:execOp c.eval o=execOp (Abs.ev t) o:=execOp_congr o (fun cs b hb=>by rw [hb] at hfl;exact absurd hfl.2 (by simp [ZQ])) (fun x hx=>(hs.ev x (by simpa using hx)).bW (hfl.1 x (by simpa using hx)))
    refine ⟨v,.flat hf,fun w'=>?_⟩
    rw [he]
    exact oO hv w'
   ·cases h
  ·cases h
 ·cases h
def LK (ρ:Rn):Option Value→Option Value→Prop
 |none,none=>True
 |some v,some w=>VR ρ v w
 |_,_=>False
theorem yW {P:Program} (k:IntKind) (n y:Nat) (code:BoundsCode) (h:n≤y) (w:World):(Instr.sliceBound (.int k (Int.ofNat n)) y code).run P w= .ok n w:=by
 have h0:0≤Int.ofNat n∧Int.ofNat n≤(y:Int):=⟨Int.natCast_nonneg n,Int.ofNat_le.2 h⟩
 simp only [Instr.sliceBound,Sem.run_bind,iE,Result.andThen_ok,h0,and_self,if_true,Sem.run_pure,pD]
theorem nY {P:Program} (k:IntKind) (n y:Nat) (code:BoundsCode) (h:n≤y) (w:World):(Instr.sliceBound (.int k (n:Int)) y code).run P w= .ok n w:=yW k n y code h w
theorem kM {ρ:Rn} {x cx:Option Value} {d n:Nat} (hx:LK ρ x cx) (h:bound x d=some n):(cx=none∧n=d)∨∃ k,cx=some (.int k (Int.ofNat n)):=by
 unfold bound at h
 split at h
 ·cases h
  cases cx with
  |none=>exact .inl ⟨rfl,rfl⟩
  |some _=>exact hx.elim
 ·rename_i k m
  cases h
  cases cx with
  |none=>exact hx.elim
  |some v=>
   have:=VR.eT hx
   subst this
   exact .inr ⟨k,rfl⟩
 ·cases h
theorem sH {P:Program} {ρ:Rn} {lo hi clo chi:Option Value} (h1:LK ρ lo clo) (h2:LK ρ hi chi) {isS:Bool} {len cap l h:Nat} (b1:bound lo 0=some l) (b2:bound hi len=some h) (hlh:l≤h) (hc:h≤cap) (w:World):
  (Instr.sliceBounds isS len cap clo chi none).run P w= .ok (l,h,cap) w:=by
 rcases kM h1 b1 with ⟨rfl,rfl⟩|⟨k,rfl⟩ <;> rcases kM h2 b2 with ⟨rfl,rfl⟩|⟨k',rfl⟩ <;>
  simp [Instr.sliceBounds,nY,hlh,hc]
theorem JK {P:Program} {ρ:Rn} {lo hi mx clo chi cmx:Option Value} (h1:LK ρ lo clo) (h2:LK ρ hi chi) (h3:LK ρ mx cmx) (hs:hi.isSome=true) (ms:mx.isSome=true) {isS:Bool} {len cap l h m:Nat} (b1:bound lo 0=some l) (b2:bound hi len=some h) (b3:bound mx 0=some m) (hlh:l≤h) (hm:h≤m) (hc:m≤cap) (w:World):
  (Instr.sliceBounds isS len cap clo chi cmx).run P w= .ok (l,h,m) w:=by
 have h2':∃ v,chi=some v:=by
  cases hi with
  |none=>cases hs
  |some v=>cases chi with
   |none=>exact h2.elim
   |some u=>exact ⟨u,rfl⟩
 have h3':∃ v,cmx=some v:=by
  cases mx with
  |none=>cases ms
  |some v=>cases cmx with
   |none=>exact h3.elim
   |some u=>exact ⟨u,rfl⟩
 obtain ⟨v2,rfl⟩:=h2'
 obtain ⟨v3,rfl⟩:=h3'
 rcases kM h2 b2 with ⟨hn,_⟩|⟨k2,hk2⟩
 ·cases hn
 rcases kM h3 b3 with ⟨hn,_⟩|⟨k3,hk3⟩
 ·cases hn
 cases hk2
 cases hk3
 rcases kM h1 b1 with ⟨rfl,rfl⟩|⟨k,rfl⟩ <;> simp [Instr.sliceBounds,nY,hlh,hm,hc]
theorem VG {P:Program} {ρ:Rn} {a:A} {w:World} {t:TypeId} {x cx:Value} (hx:VR ρ x cx) {lo hi mx clo chi cmx:Option Value} (h1:LK ρ lo clo) (h2:LK ρ hi chi) (h3:LK ρ mx cmx) {r:R1} (h:D1 P t x lo hi mx=some r):
  xY P ρ a w (Instr.sliceAt t cx clo chi cmx) r:=by
 unfold D1 at h
 split at h
 ·rename_i elem b o n k hd
  have hmx:cmx=none:=by
   cases cmx with
   |none=>rfl
   |some _=>exact h3.elim
  subst hmx
  obtain ⟨c,rfl,hc,hcap⟩:=hx.fL
  split at h
  ·rename_i i hh l hi' b2 b1
   split at h
   ·rename_i hk
    have hk0:cJ ρ b k=k / 2:=by simp [cJ,Nat.eq_of_beq_eq_true hk]
    split at h
    ·rename_i hq
     simp only [Bool.and_eq_true] at hq
     cases h
     have q1:=Nat.le_of_ble_eq_true hq.1
     have q2:=Nat.le_of_ble_eq_true hq.2
     have hcap2:cJ ρ b (2*(k / 2 - l))=k / 2 - l:=by simp [cJ]
     have hv:=VR.slice (o:=bif Nat.beq (k / 2) l then o else o+l*i.size) (n:=hh - l) (k:=2*(k / 2 - l)) hc (by rw [hcap2];omega)
     rw [hcap2] at hv
     refine ⟨_,hv,fun w'=>?_⟩
     have hbd:=sH (P:=P) (isS:=true) h1 h2 b1 b2 q1 q2 w'
     rw [hk0]
     simp only [Instr.sliceAt,Sem.run_bind,bH hd,Result.andThen_ok,Instr.slice,hbd,eP hi',Sem.run_pure,Option.map_some,add_eq]
     by_cases he:k / 2=l
     ·have:Nat.beq (k / 2) l=true:=by rw [he];exact Nat.beq_refl l
      rw [if_pos he,this];rfl
     ·have:Nat.beq (k / 2) l=false:=by
       cases hb:Nat.beq (k / 2) l with
       |false=>rfl
       |true=>exact absurd (Nat.eq_of_beq_eq_true hb) he
      rw [if_neg he,this];rfl
    ·cases h
   ·rename_i hk
    have hk1:k % 2=1:=by
     rcases Nat.mod_two_eq_zero_or_one k with h0|h0
     ·rw [h0] at hk;cases hk
     ·exact h0
    split at h
    ·rename_i hq
     simp only [Bool.and_eq_true,Bool.or_eq_true] at hq
     cases h
     have q1:=Nat.le_of_ble_eq_true hq.1.1
     have q2:=Nat.le_of_ble_eq_true hq.1.2
     have hcapE:cJ ρ b k=ρ.cap b - k / 2:=by simp [cJ,hk1]
     have hcap2:cJ ρ b (k+2*l)=cJ ρ b k - l:=by
      have:(k+2*l) % 2=1:=by omega
      rw [hcapE]
      simp only [cJ,this]
      simp
      omega
     have hv:=VR.slice (o:=o+l*i.size) (n:=hh - l) (k:=k+2*l) hc (by rw [hcap2];omega)
     rw [hcap2] at hv
     refine ⟨_,hv,fun w'=>?_⟩
     simp only [Instr.sliceAt,Sem.run_bind,bH hd,Result.andThen_ok,Instr.slice,sH h1 h2 b1 b2 q1 (Nat.le_trans q2 hcap),eP hi',Sem.run_pure,Option.map_some,add_eq]
     by_cases he:cJ ρ b k=l
     ·rw [if_pos he]
      have hl0:l=0:=by
       rcases hq.2 with h0|h0
       ·exact Nat.eq_of_beq_eq_true h0
       ·simp only [Nat.blt_eq] at h0;omega
      subst hl0
      simp
     ·rw [if_neg he]
    ·cases h
  ·cases h
 ·rename_i mx' elem b o n k hd
  obtain ⟨c,rfl,hc,hcap⟩:=hx.fL
  split at h
  ·rename_i i hh l m hi' b2 b1 b3
   split at h
   ·rename_i hq
    simp only [Bool.and_eq_true] at hq
    cases h
    have q1:=Nat.le_of_ble_eq_true hq.1.1.1
    have q2:=Nat.le_of_ble_eq_true hq.1.1.2
    have q3:=Nat.le_of_ble_eq_true hq.1.2
    have hm:m≤cJ ρ b k:=by
     refine Nat.le_trans q3 ?_
     cases hk:Nat.beq (k % 2) 0
     ·exact hcap
     ·have:cJ ρ b k=k / 2:=by simp [cJ,Nat.eq_of_beq_eq_true hk]
      rw [this];exact Nat.le_refl _
    have hcap2:cJ ρ b (2*(m - l))=m - l:=by simp [cJ]
    have hv:=VR.slice (o:=bif Nat.beq m l then o else o+l*i.size) (n:=hh - l) (k:=2*(m - l)) hc (by rw [hcap2];omega)
    rw [hcap2] at hv
    refine ⟨_,hv,fun w'=>?_⟩
    simp only [Instr.sliceAt,Sem.run_bind,bH hd,Result.andThen_ok,Instr.slice,JK h1 h2 h3 hq.2 rfl b1 b2 b3 q1 q2 hm,eP hi',Sem.run_pure,Option.map_some,add_eq]
    by_cases he:m=l
    ·have:Nat.beq m l=true:=by rw [he];exact Nat.beq_refl l
     rw [if_pos he,this];rfl
    ·have:Nat.beq m l=false:=by
      cases hb:Nat.beq m l with
      |false=>rfl
      |true=>exact absurd (Nat.eq_of_beq_eq_true hb) he
     rw [if_neg he,this];rfl
   ·cases h
  ·cases h
 ·rename_i n elem b o hd
  have hmx:cmx=none:=by
   cases cmx with
   |none=>rfl
   |some _=>exact h3.elim
  subst hmx
  obtain ⟨c,rfl,hc⟩:=hx.gT
  split at h
  ·rename_i i hh l hi' b2 b1
   split at h
   ·rename_i hq
    simp only [Bool.and_eq_true] at hq
    cases h
    have q1:=Nat.le_of_ble_eq_true hq.1
    have q2:=Nat.le_of_ble_eq_true hq.2
    have hcap2:cJ ρ b (2*(n - l))=n - l:=by simp [cJ]
    have hv:=VR.slice (o:=bif Nat.beq n l then o else o+l*i.size) (n:=hh - l) (k:=2*(n - l)) hc (by rw [hcap2];omega)
    rw [hcap2] at hv
    refine ⟨_,hv,fun w'=>?_⟩
    simp only [Instr.sliceAt,Sem.run_bind,bH hd,Result.andThen_ok,Instr.sureAddr,Sem.run_pure,sH h1 h2 b1 b2 q1 q2,eP hi',add_eq]
    by_cases he:n=l
    ·have:Nat.beq n l=true:=by rw [he];exact Nat.beq_refl l
     rw [if_pos he,this];rfl
    ·have:Nat.beq n l=false:=by
      cases hb:Nat.beq n l with
      |false=>rfl
      |true=>exact absurd (Nat.eq_of_beq_eq_true hb) he
     rw [if_neg he,this];rfl
   ·cases h
  ·cases h
 ·cases h
theorem DW (w:World) (p:Addr) (n k:Nat) (h:k≠p.block):(w.freeze p n).heap[k]?=w.heap[k]?:=by
 unfold World.freeze
 split
 ·rfl
 ·have hne:¬ p.block=k:=fun e=>h e.symm
  simp [Array.getElem?_modify,hne]
theorem EX (w:World) (p:Addr) (n:Nat) {C:Array Value} {e:TypeId} {fr:Nat × Nat} (h:w.heap[p.block]?=some (.cells C e fr)):∃ fr',(w.freeze p n).heap[p.block]?=some (.cells C e fr'):=by
 unfold World.freeze
 split
 ·exact ⟨fr,h⟩
 ·simp [Array.getElem?_modify,h]
theorem O1 (w:World) (p:Addr) (n:Nat):Md (fun k=>k=p.block) w (w.freeze p n):=by
 refine ⟨?_,?_,?_,?_,fun k _ hn=>DW w p n k hn⟩ <;> (unfold World.freeze;split <;> simp)
theorem IY (w:World) (C:Array Value) (e:TypeId) (k:Nat):∃ fr,(w.alloc (.cells C e)).freeze ⟨w.heap.size,k,none⟩ 1=w.alloc (.cells C e fr):=by
 refine ⟨(k,k+1),?_⟩
 unfold World.freeze World.alloc
 simp only [Nat.one_ne_zero,if_false]
 congr 1
 apply Array.ext_getElem?
 intro i
 rw [Array.getElem?_modify]
 by_cases hi:w.heap.size=i
 ·subst hi
  simp
 ·have hi':¬ i=w.heap.size:=fun e=>hi e.symm
  simp [hi,hi',Array.getElem?_push]
theorem nQ:∀ {vs:List Value} {bs:List UInt8},rV vs=some bs→vs=bs.map fun x=>Value.int .u8 (x.toNat:Int)
 | [],bs,h=>by simp [rV] at h;subst h;rfl
 |v :: vs,bs,h=>by
  unfold rV at h
  split at h
  ·rename_i heq;cases heq
  ·rename_i n l heq
   cases heq
   split at h
   ·rename_i r hlt hl
    cases h
    have hn:n<256:=by simpa [Nat.blt_eq] using hlt
    rw [List.map_cons,← nQ hl]
    congr 2
    show ((n:Nat):Int)=_
    congr 1
    simp [UInt8.toNat_ofNat,Nat.mod_eq_of_lt hn]
   ·cases h
  ·cases h
theorem xH (f:Int→UInt8):∀ (ns:List Int) (s:ByteArray),(ns.foldl (fun r n=>r.push (f n)) s)=⟨s.data++(ns.map f).toArray⟩
 | [],s=>by simp
 |n :: ns,s=>by
  rw [List.foldl_cons,xH f ns]
  simp [ByteArray.push]
theorem IW {P:Program} {ρ:Rn} {a:A} {w:World} (hR:Rel P ρ a w) (hn:ρ.bI a.next=none) {src dst:TypeId} {x cx:Value} (hx:VR ρ x cx) {r:R1} (h:sM P a src dst x=some r):xY P ρ a w (convert src dst cx) r:=by
 unfold sM at h
 split at h
 ·rename_i e s hs hd
  obtain rfl:=hx.kW
  split at h
  ·rename_i he hr
   cases h
   obtain ⟨fr,hfr⟩:=IY w.drew (s.data.map (fun b=>Value.int .u8 (b.toNat:Int))++Array.replicate (grownCap w s.size 0 e - s.size) (.int .u8 0)) e (s.data.size+(grownCap w s.size 0 e - s.size))
   obtain ⟨σ,s1,s2,s3,s4⟩:=St.new (w1:=w.drew) hR hr hn (.row (s.data.map fun b=>Value.int .u8 b.toNat).toList e 2) (.cells (s.data.map (fun b=>Value.int .u8 (b.toNat:Int))++Array.replicate (grownCap w s.size 0 e - s.size) (.int .u8 0)) e fr) (grownCap w s.size 0 e) rfl rfl rfl rfl
    (fun σ hl hb hc=>⟨_,_,rfl,⟨(s.data.map fun b=>Value.int .u8 (b.toNat:Int)).toList,(Array.replicate (grownCap w s.size 0 e - s.size) (Value.int .u8 0)).toList,by simp,LR.flat (by rw [Array.toList_map];exact lI _)⟩,fun h=>absurd rfl h,(fun h=>by cases h),(fun h=>by cases h)⟩)
   have hcap:cJ σ a.next 1=grownCap w s.size 0 e:=by simp [cJ,s3]
   have hv:=VR.slice (o:=0) (n:=s.size) (k:=1) s2 (by rw [hcap];exact grownCap_ge w s.size 0 e)
   rw [hcap] at hv
   refine ⟨_,_,σ,?_,hv,s4,.inr rfl⟩
   rw [← hfr]
   have hq:(Question.appendCap s.size 0 e).forced=false:=rfl
   have hshape:∀ (W:World) (C:Array Value),(W.alloc (.cells C e)).shape? W.heap.size=some (e,C.size):=fun W C=>by
    unfold World.shape?
    rw [heap_alloc_new]
   simp only [convert,Sem.run_bind,bH hs,bH hd,bH he,Result.andThen_ok,Conv.stringToBytes,run_choose,hq,Bool.false_eq_true,if_false,iV,markStringish,run_shape,Sem.run_pure]
   obtain ⟨X,hX⟩:∃ X,X=(s.data.map (fun b=>Value.int .u8 (b.toNat:Int))++Array.replicate (grownCap w s.size 0 e - s.size) (.int .u8 0)):=⟨_,rfl⟩
   have hXs:X.size=s.data.size+(grownCap w s.size 0 e - s.size):=by rw [hX];simp
   rw [← hX,← hXs]
   have hg:(Question.appendCap s.size 0 e).cut (w.tape w.drawn (Question.appendCap s.size 0 e))=grownCap w s.size 0 e:=rfl
   rw [hg,← hX]
   change ((Sem.run P (match (w.drew.alloc (.cells X e)).shape? w.drew.heap.size with|some (fst,n)=>freeze ⟨w.drew.heap.size,n,none⟩ 1|x=>Pure.pure ()) (w.drew.alloc (.cells X e))).andThen _)=_
   rw [hshape]
   rfl
  ·cases h
 ·rename_i e b o n k hs hd
  obtain ⟨c,rfl,hc,hcap⟩:=hx.fL
  split at h
  ·rename_i cs t m he hb
   split at h
   ·rename_i vs ht
    split at h
    ·rename_i bs hbs
     cases h
     obtain ⟨ws,h1,h2,h3⟩:=hR.taken hb hc ht
     obtain rfl:=nQ hbs
     have hws:=h1.bW (lI _)
     subst hws
     refine ⟨_,cf c o (bs.map fun x=>Value.int .u8 (x.toNat:Int)),.flat rfl,FR.facts hc o h1,h3,fun w' hw'=>?_⟩
     have hm:(bs.map fun x=>Value.int .u8 (x.toNat:Int))=(bs.map fun x=>(x.toNat:Int)).map (Value.int .u8):=by simp
     rw [run_convert_bytes_string w' src dst e _ _ _ hs he hd,run_bytesToString w' ⟨c,o,none⟩ n _ (bs.map fun x=>(x.toNat:Int)) (by rw [← hm,← h2];exact z8 hw'),xH]
     simp [Function.comp_def]
    ·cases h
   ·cases h
  ·cases h
 ·cases h
end Go.Proofs.YtjopodnlffaogaaGreatDoor.Abs
end
