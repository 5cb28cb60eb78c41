import Derived.Test.YtpefcgiiigdcdaaGreatLD
import Derived.Test.YtpefcgiiigdcdaaGreatTV
import Derived.Test.YtpefcgiiigdcdaaGreatCV
import Derived.Tactics
import Derived.Tactics2
section
namespace Go.Ab
section
variable {P:Program}
theorem bP [Df] {c x y:Code} {s s1 s2:St} {e:Exit} (hc:c=.seq x y) (h:Runs P x s .normal s1) (k:Runs P y s1 e s2):Runs P c s e s2:=hc▸U4 h k
theorem uy [Df] {c x y:Code} {s s1:St} {e:Exit} (hc:c=.seq x y) (he:e≠.normal) (h:Runs P x s e s1):Runs P c s e s1:=hc▸Pn he h
theorem iI [Df] {c x y:Code} {q:Operand} {s s2:St} {e:Exit} {t b:Bool} (hc:c=.cond q x y) (hv:s.ev q=.d (.v (.bool t))) (hb:t=b) (h:Runs P (bif b then x else y) s e s2):Runs P c s e s2:=hc▸Rk hv hb h
theorem yR [Df] {c x:Code} {id:Nat} {s s2:St} {e:Exit} (hc:c=.block id x) (he:e≠.exit id) (h:Runs P x s e s2):Runs P c s e s2:=hc▸MZ he h
theorem F8 [Df] {c:Code} {id:Nat} {ops:Array Oper} {s s2:St} {e:Exit} {d:Bool} (hc:c=.region id ops d) (h:Runs P (.region id ops d) s e s2):Runs P c s e s2:=hc▸h
end
end Go.Ab
namespace Go.Ab.M
open Go.Proofs Go.Ab
set_option linter.unusedVariables false
set_option maxRecDepth 100000
abbrev chE (e:Int):List PanicEntry:=[{ v:=.iface 29 (.int .i64 e),recovered:=false }]
theorem aaL (x:Rat) (e:Int) (he:(e != 0)=true):Np Tryz.prog 189 [AG Rat.D x,I e] (chE e):=
 QC (c:=(ah Tryz.f189)) (s':=⟨10,0,[(8,.iface 29 (I e)),(7,I e),(1,I e),(6,B (e != 0))],[]⟩) Tryz.func189 (by kernel_rfl) (by kernel_rfl)
  (bP (x:=nav [0] (ah Tryz.f189)) (y:=nav [1] (ah Tryz.f189)) (s1:=⟨10,0,[(1,I e)],[]⟩) (by kernel_rfl) (iM (R:=Unit) (eo:=fun _=>.normal) (so:=fun _=>⟨10,0,[(1,I e)],[]⟩) (v:=some ()) 10 (.ps 1000003 [.k [1] []] (.ret ())) (by kernel_rfl) () rfl)
   (uy (x:=nav [1,0] (ah Tryz.f189)) (y:=nav [1,1] (ah Tryz.f189)) (by kernel_rfl) (fun h=>by cases h)
    (bP (x:=nav [1,0,0] (ah Tryz.f189)) (y:=nav [1,0,1] (ah Tryz.f189)) (s1:=⟨10,0,[(1,I e),(6,B (e != 0))],[]⟩) (by kernel_rfl) (iM (R:=Unit) (eo:=fun _=>.normal) (so:=fun _=>⟨10,0,[(1,I e),(6,B (e != 0))],[]⟩) (v:=some ()) 10 (.ps 1000003 [.k [1,6] []] (.ret ())) (by kernel_rfl) () rfl)
     (iI (q:=.tmp 6) (x:=nav [1,0,1,0] (ah Tryz.f189)) (y:=nav [1,0,1,1] (ah Tryz.f189)) (t:=e != 0) (b:=true) (by kernel_rfl) rfl he
      (F8 (id:=2) (ops:=opsOf (nav [1,0,1,0] (ah Tryz.f189))) (d:=false) (by kernel_rfl) (ae3 (n:=2) (hs:=[]) (ob:=[]) (by kernel_rfl) (by kernel_rfl) trivial
       (aeD (x:=.tmp 8) (o:=opAt (nav [1,0,1,0] (ah Tryz.f189)) 2) (t:=29) (v:=.int .i64 e) (by kernel_rfl) (by kernel_rfl) (by kernel_rfl) (by kernel_rfl))))))))
def callOf (o:Oper):Call:=match o.op with | .call c=>c | _=>{ callee:=.builtin .len,args:=#[],argTypes:=#[] }
theorem adi [Df] {ps:List PH} {s s':St} (h:post ps s=some (s',[])):Goes s s':=fun F w0 M0 ι0 ι a w R=>qm ps s s' [] h F w0 M0 ι0 ι a w R
theorem Zi [Df] {ops:Array Oper} {n:Nat} {sP s':St} {ps:List PH} {id:FuncId} {args:List A} {ch:List PanicEntry} (ho:ops[n]?=some ops[n]!) (hg:(ops[n]!).guard=none) (hx:(ops[n]!).op=.call (callOf ops[n]!)) (oM:(callOf ops[n]!).callee=.value (.func id))
  (hps:post ps sP=some (s',[])) (hargs:(callOf ops[n]!).args.toList.map s'.ev=args) (hc:callable Tryz.prog id=true) (hp:Np Tryz.prog id args ch):XW Tryz.prog ops n sP ch:=
 abW ho hg hx oM hps rfl hargs hc hp
def zy (v:List Rat) (a b x:Int):Option (Rat×Int):=bif decide (0≤a) then bif decide (a.toNat<v.length) then bif decide (0≤b) then bif decide (b.toNat<v.length) then (qU (nth v a.toNat) (nth v b.toNat)).bind fun x0=>some x0 else none else none else none else none
theorem Ue (v:List Rat) (a b x:Int) (m:Rat) (y:Rat×Int) (hy:zy v a b x=some y) (he:(y.2 != 0)=true):Np Tryz.prog 138 [AG TOp.D (TOp.mk 5 a b x m),SL Rat.D v] (chE y.2):=
  QC (c:=(ah Tryz.f138)) (s':=(fun y:Rat×Int=>(⟨86,0,[(59,AG Rat.D y.1),(60,I y.2)],[]⟩:St)) y) Tryz.func138 (by kernel_rfl) (by kernel_rfl)
  (bP (x:=nav [0] (ah Tryz.f138)) (y:=nav [1] (ah Tryz.f138)) (s1:=⟨86,0,[(1,SL Rat.D v),(2,.ptr 10 0 0)],[(10,BOX [I 5,I a,I b,I x,B m.Neg,SL (cI .u32) m.Num,SL (cI .u32) m.Den])]⟩) (by kernel_rfl) (iM (R:=Unit) (eo:=fun _=>.normal) (so:=fun _=>⟨86,0,[(1,SL Rat.D v),(2,.ptr 10 0 0)],[(10,BOX [I 5,I a,I b,I x,B m.Neg,SL (cI .u32) m.Num,SL (cI .u32) m.Den])]⟩) (v:=some ()) 10 (.ps 1000003 [.k [1,2] [10]] (.ret ())) (by kernel_rfl) () rfl)
  (uy (x:=nav [1,0] (ah Tryz.f138)) (y:=nav [1,1] (ah Tryz.f138)) (by kernel_rfl) (fun h=>by cases h)
  (bP (x:=nav [1,0,0] (ah Tryz.f138)) (y:=nav [1,0,1] (ah Tryz.f138)) (s1:=⟨86,0,[(1,SL Rat.D v),(2,.ptr 10 0 0),(6,I 5)],[(10,BOX [I 5,I a,I b,I x,B m.Neg,SL (cI .u32) m.Num,SL (cI .u32) m.Den])]⟩) (by kernel_rfl) (iM (R:=Unit) (eo:=fun _=>.normal) (so:=fun _=>⟨86,0,[(1,SL Rat.D v),(2,.ptr 10 0 0),(6,I 5)],[(10,BOX [I 5,I a,I b,I x,B m.Neg,SL (cI .u32) m.Num,SL (cI .u32) m.Den])]⟩) (v:=some ()) 10 (.ps 1000003 [.k [1,2,6] [10]] (.ret ())) (by kernel_rfl) () rfl)
  (yR (id:=0) (x:=nav [1,0,1,0] (ah Tryz.f138)) (by kernel_rfl) (fun h=>by cases h) (bP (x:=nav [1,0,1,0,0] (ah Tryz.f138)) (y:=nav [1,0,1,0,1] (ah Tryz.f138)) (s1:=⟨86,0,[(1,SL Rat.D v),(2,.ptr 10 0 0),(6,I 5),(7,B false)],[(10,BOX [I 5,I a,I b,I x,B m.Neg,SL (cI .u32) m.Num,SL (cI .u32) m.Den])]⟩) (by kernel_rfl) (iM (R:=Unit) (eo:=fun _=>.normal) (so:=fun _=>⟨86,0,[(1,SL Rat.D v),(2,.ptr 10 0 0),(6,I 5),(7,B false)],[(10,BOX [I 5,I a,I b,I x,B m.Neg,SL (cI .u32) m.Num,SL (cI .u32) m.Den])]⟩) (v:=some ()) 10 (.ps 1000003 [.k [1,2,6,7] [10]] (.ret ())) (by kernel_rfl) () rfl)
 (iI (q:=.tmp 7) (x:=nav [1,0,1,0,1,0] (ah Tryz.f138)) (y:=nav [1,0,1,0,1,1] (ah Tryz.f138)) (t:=false) (b:=false) (by kernel_rfl) rfl rfl (bP (x:=nav [1,0,1,0,1,1,0] (ah Tryz.f138)) (y:=nav [1,0,1,0,1,1,1] (ah Tryz.f138)) (s1:=⟨86,0,[(1,SL Rat.D v),(2,.ptr 10 0 0),(6,I 5),(20,B false)],[(10,BOX [I 5,I a,I b,I x,B m.Neg,SL (cI .u32) m.Num,SL (cI .u32) m.Den])]⟩) (by kernel_rfl) (iM (R:=Unit) (eo:=fun _=>.normal) (so:=fun _=>⟨86,0,[(1,SL Rat.D v),(2,.ptr 10 0 0),(6,I 5),(20,B false)],[(10,BOX [I 5,I a,I b,I x,B m.Neg,SL (cI .u32) m.Num,SL (cI .u32) m.Den])]⟩) (v:=some ()) 10 (.ps 1000003 [.k [1,2,6,20] [10]] (.ret ())) (by kernel_rfl) () rfl)
 (iI (q:=.tmp 20) (x:=nav [1,0,1,0,1,1,1,0] (ah Tryz.f138)) (y:=nav [1,0,1,0,1,1,1,1] (ah Tryz.f138)) (t:=false) (b:=false) (by kernel_rfl) rfl rfl (bP (x:=nav [1,0,1,0,1,1,1,1,0] (ah Tryz.f138)) (y:=nav [1,0,1,0,1,1,1,1,1] (ah Tryz.f138)) (s1:=⟨86,0,[(1,SL Rat.D v),(2,.ptr 10 0 0),(6,I 5),(33,B false)],[(10,BOX [I 5,I a,I b,I x,B m.Neg,SL (cI .u32) m.Num,SL (cI .u32) m.Den])]⟩) (by kernel_rfl) (iM (R:=Unit) (eo:=fun _=>.normal) (so:=fun _=>⟨86,0,[(1,SL Rat.D v),(2,.ptr 10 0 0),(6,I 5),(33,B false)],[(10,BOX [I 5,I a,I b,I x,B m.Neg,SL (cI .u32) m.Num,SL (cI .u32) m.Den])]⟩) (v:=some ()) 10 (.ps 1000003 [.k [1,2,6,33] [10]] (.ret ())) (by kernel_rfl) () rfl)
 (iI (q:=.tmp 33) (x:=nav [1,0,1,0,1,1,1,1,1,0] (ah Tryz.f138)) (y:=nav [1,0,1,0,1,1,1,1,1,1] (ah Tryz.f138)) (t:=false) (b:=false) (by kernel_rfl) rfl rfl (bP (x:=nav [1,0,1,0,1,1,1,1,1,1,0] (ah Tryz.f138)) (y:=nav [1,0,1,0,1,1,1,1,1,1,1] (ah Tryz.f138)) (s1:=⟨86,0,[(1,SL Rat.D v),(2,.ptr 10 0 0),(6,I 5),(46,B true)],[(10,BOX [I 5,I a,I b,I x,B m.Neg,SL (cI .u32) m.Num,SL (cI .u32) m.Den])]⟩) (by kernel_rfl) (iM (R:=Unit) (eo:=fun _=>.normal) (so:=fun _=>⟨86,0,[(1,SL Rat.D v),(2,.ptr 10 0 0),(6,I 5),(46,B true)],[(10,BOX [I 5,I a,I b,I x,B m.Neg,SL (cI .u32) m.Num,SL (cI .u32) m.Den])]⟩) (v:=some ()) 10 (.ps 1000003 [.k [1,2,6,46] [10]] (.ret ())) (by kernel_rfl) () rfl)
 (iI (q:=.tmp 46) (x:=nav [1,0,1,0,1,1,1,1,1,1,1,0] (ah Tryz.f138)) (y:=nav [1,0,1,0,1,1,1,1,1,1,1,1] (ah Tryz.f138)) (t:=true) (b:=true) (by kernel_rfl) rfl rfl (uy (x:=nav [1,0,1,0,1,1,1,1,1,1,1,0,0] (ah Tryz.f138)) (y:=nav [1,0,1,0,1,1,1,1,1,1,1,0,1] (ah Tryz.f138)) (by kernel_rfl) (fun h=>by cases h) (F8 (id:=9) (ops:=opsOf (nav [1,0,1,0,1,1,1,1,1,1,1,0,0] (ah Tryz.f138))) (d:=true) (by kernel_rfl) (abX (P:=Tryz.prog) (n:=13) (so:=(fun y:Rat×Int=>(⟨86,0,[(59,AG Rat.D y.1),(60,I y.2)],[]⟩:St))) (v:=bif decide (0≤a) then bif decide (a.toNat<v.length) then bif decide (0≤b) then bif decide (b.toNat<v.length) then (qU (nth v a.toNat) (nth v b.toNat)).bind fun x0=>some x0 else none else none else none else none) 200 (.op 90006 (.el Rat.D v .dn) (.op 90016 (.el Rat.D v .dn) (.call [] [] (BG (nth v a.toNat) (nth v b.toNat)) .no fun x0=>.ret x0))) (by kernel_rfl) y _ hy (Zi (ps:=[]) (s':=(fun y:Rat×Int=>(⟨86,0,[(59,AG Rat.D y.1),(60,I y.2)],[]⟩:St)) y) (id:=189) (by kernel_rfl) (by kernel_rfl) (by kernel_rfl) (by kernel_rfl) rfl (by kernel_rfl) (by kernel_rfl) (aaL y.1 y.2 he)))))))))))))))))
def zx (v:List Rat) (a b x:Int):Option (Rat×Int):=bif decide (0≤a) then bif decide (a.toNat<v.length) then (jP (nth v a.toNat) x).bind fun x0=>some x0 else none else none
theorem SV (v:List Rat) (a b x:Int) (m:Rat) (y:Rat×Int) (hy:zx v a b x=some y) (he:(y.2 != 0)=true):Np Tryz.prog 138 [AG TOp.D (TOp.mk 7 a b x m),SL Rat.D v] (chE y.2):=
  QC (c:=(ah Tryz.f138)) (s':=(fun y:Rat×Int=>(⟨86,0,[(80,AG Rat.D y.1),(81,I y.2)],[]⟩:St)) y) Tryz.func138 (by kernel_rfl) (by kernel_rfl)
  (bP (x:=nav [0] (ah Tryz.f138)) (y:=nav [1] (ah Tryz.f138)) (s1:=⟨86,0,[(1,SL Rat.D v),(2,.ptr 10 0 0)],[(10,BOX [I 7,I a,I b,I x,B m.Neg,SL (cI .u32) m.Num,SL (cI .u32) m.Den])]⟩) (by kernel_rfl) (iM (R:=Unit) (eo:=fun _=>.normal) (so:=fun _=>⟨86,0,[(1,SL Rat.D v),(2,.ptr 10 0 0)],[(10,BOX [I 7,I a,I b,I x,B m.Neg,SL (cI .u32) m.Num,SL (cI .u32) m.Den])]⟩) (v:=some ()) 10 (.ps 1000003 [.k [1,2] [10]] (.ret ())) (by kernel_rfl) () rfl)
  (uy (x:=nav [1,0] (ah Tryz.f138)) (y:=nav [1,1] (ah Tryz.f138)) (by kernel_rfl) (fun h=>by cases h)
  (bP (x:=nav [1,0,0] (ah Tryz.f138)) (y:=nav [1,0,1] (ah Tryz.f138)) (s1:=⟨86,0,[(1,SL Rat.D v),(2,.ptr 10 0 0),(6,I 7)],[(10,BOX [I 7,I a,I b,I x,B m.Neg,SL (cI .u32) m.Num,SL (cI .u32) m.Den])]⟩) (by kernel_rfl) (iM (R:=Unit) (eo:=fun _=>.normal) (so:=fun _=>⟨86,0,[(1,SL Rat.D v),(2,.ptr 10 0 0),(6,I 7)],[(10,BOX [I 7,I a,I b,I x,B m.Neg,SL (cI .u32) m.Num,SL (cI .u32) m.Den])]⟩) (v:=some ()) 10 (.ps 1000003 [.k [1,2,6] [10]] (.ret ())) (by kernel_rfl) () rfl)
  (yR (id:=0) (x:=nav [1,0,1,0] (ah Tryz.f138)) (by kernel_rfl) (fun h=>by cases h) (bP (x:=nav [1,0,1,0,0] (ah Tryz.f138)) (y:=nav [1,0,1,0,1] (ah Tryz.f138)) (s1:=⟨86,0,[(1,SL Rat.D v),(2,.ptr 10 0 0),(6,I 7),(7,B false)],[(10,BOX [I 7,I a,I b,I x,B m.Neg,SL (cI .u32) m.Num,SL (cI .u32) m.Den])]⟩) (by kernel_rfl) (iM (R:=Unit) (eo:=fun _=>.normal) (so:=fun _=>⟨86,0,[(1,SL Rat.D v),(2,.ptr 10 0 0),(6,I 7),(7,B false)],[(10,BOX [I 7,I a,I b,I x,B m.Neg,SL (cI .u32) m.Num,SL (cI .u32) m.Den])]⟩) (v:=some ()) 10 (.ps 1000003 [.k [1,2,6,7] [10]] (.ret ())) (by kernel_rfl) () rfl)
 (iI (q:=.tmp 7) (x:=nav [1,0,1,0,1,0] (ah Tryz.f138)) (y:=nav [1,0,1,0,1,1] (ah Tryz.f138)) (t:=false) (b:=false) (by kernel_rfl) rfl rfl (bP (x:=nav [1,0,1,0,1,1,0] (ah Tryz.f138)) (y:=nav [1,0,1,0,1,1,1] (ah Tryz.f138)) (s1:=⟨86,0,[(1,SL Rat.D v),(2,.ptr 10 0 0),(6,I 7),(20,B false)],[(10,BOX [I 7,I a,I b,I x,B m.Neg,SL (cI .u32) m.Num,SL (cI .u32) m.Den])]⟩) (by kernel_rfl) (iM (R:=Unit) (eo:=fun _=>.normal) (so:=fun _=>⟨86,0,[(1,SL Rat.D v),(2,.ptr 10 0 0),(6,I 7),(20,B false)],[(10,BOX [I 7,I a,I b,I x,B m.Neg,SL (cI .u32) m.Num,SL (cI .u32) m.Den])]⟩) (v:=some ()) 10 (.ps 1000003 [.k [1,2,6,20] [10]] (.ret ())) (by kernel_rfl) () rfl)
 (iI (q:=.tmp 20) (x:=nav [1,0,1,0,1,1,1,0] (ah Tryz.f138)) (y:=nav [1,0,1,0,1,1,1,1] (ah Tryz.f138)) (t:=false) (b:=false) (by kernel_rfl) rfl rfl (bP (x:=nav [1,0,1,0,1,1,1,1,0] (ah Tryz.f138)) (y:=nav [1,0,1,0,1,1,1,1,1] (ah Tryz.f138)) (s1:=⟨86,0,[(1,SL Rat.D v),(2,.ptr 10 0 0),(6,I 7),(33,B false)],[(10,BOX [I 7,I a,I b,I x,B m.Neg,SL (cI .u32) m.Num,SL (cI .u32) m.Den])]⟩) (by kernel_rfl) (iM (R:=Unit) (eo:=fun _=>.normal) (so:=fun _=>⟨86,0,[(1,SL Rat.D v),(2,.ptr 10 0 0),(6,I 7),(33,B false)],[(10,BOX [I 7,I a,I b,I x,B m.Neg,SL (cI .u32) m.Num,SL (cI .u32) m.Den])]⟩) (v:=some ()) 10 (.ps 1000003 [.k [1,2,6,33] [10]] (.ret ())) (by kernel_rfl) () rfl)
 (iI (q:=.tmp 33) (x:=nav [1,0,1,0,1,1,1,1,1,0] (ah Tryz.f138)) (y:=nav [1,0,1,0,1,1,1,1,1,1] (ah Tryz.f138)) (t:=false) (b:=false) (by kernel_rfl) rfl rfl (bP (x:=nav [1,0,1,0,1,1,1,1,1,1,0] (ah Tryz.f138)) (y:=nav [1,0,1,0,1,1,1,1,1,1,1] (ah Tryz.f138)) (s1:=⟨86,0,[(1,SL Rat.D v),(2,.ptr 10 0 0),(6,I 7),(46,B false)],[(10,BOX [I 7,I a,I b,I x,B m.Neg,SL (cI .u32) m.Num,SL (cI .u32) m.Den])]⟩) (by kernel_rfl) (iM (R:=Unit) (eo:=fun _=>.normal) (so:=fun _=>⟨86,0,[(1,SL Rat.D v),(2,.ptr 10 0 0),(6,I 7),(46,B false)],[(10,BOX [I 7,I a,I b,I x,B m.Neg,SL (cI .u32) m.Num,SL (cI .u32) m.Den])]⟩) (v:=some ()) 10 (.ps 1000003 [.k [1,2,6,46] [10]] (.ret ())) (by kernel_rfl) () rfl)
 (iI (q:=.tmp 46) (x:=nav [1,0,1,0,1,1,1,1,1,1,1,0] (ah Tryz.f138)) (y:=nav [1,0,1,0,1,1,1,1,1,1,1,1] (ah Tryz.f138)) (t:=false) (b:=false) (by kernel_rfl) rfl rfl (bP (x:=nav [1,0,1,0,1,1,1,1,1,1,1,1,0] (ah Tryz.f138)) (y:=nav [1,0,1,0,1,1,1,1,1,1,1,1,1] (ah Tryz.f138)) (s1:=⟨86,0,[(1,SL Rat.D v),(2,.ptr 10 0 0),(6,I 7),(62,B false)],[(10,BOX [I 7,I a,I b,I x,B m.Neg,SL (cI .u32) m.Num,SL (cI .u32) m.Den])]⟩) (by kernel_rfl) (iM (R:=Unit) (eo:=fun _=>.normal) (so:=fun _=>⟨86,0,[(1,SL Rat.D v),(2,.ptr 10 0 0),(6,I 7),(62,B false)],[(10,BOX [I 7,I a,I b,I x,B m.Neg,SL (cI .u32) m.Num,SL (cI .u32) m.Den])]⟩) (v:=some ()) 10 (.ps 1000003 [.k [1,2,6,62] [10]] (.ret ())) (by kernel_rfl) () rfl)
 (iI (q:=.tmp 62) (x:=nav [1,0,1,0,1,1,1,1,1,1,1,1,1,0] (ah Tryz.f138)) (y:=nav [1,0,1,0,1,1,1,1,1,1,1,1,1,1] (ah Tryz.f138)) (t:=false) (b:=false) (by kernel_rfl) rfl rfl (bP (x:=nav [1,0,1,0,1,1,1,1,1,1,1,1,1,1,0] (ah Tryz.f138)) (y:=nav [1,0,1,0,1,1,1,1,1,1,1,1,1,1,1] (ah Tryz.f138)) (s1:=⟨86,0,[(1,SL Rat.D v),(2,.ptr 10 0 0),(6,I 7),(70,B true)],[(10,BOX [I 7,I a,I b,I x,B m.Neg,SL (cI .u32) m.Num,SL (cI .u32) m.Den])]⟩) (by kernel_rfl) (iM (R:=Unit) (eo:=fun _=>.normal) (so:=fun _=>⟨86,0,[(1,SL Rat.D v),(2,.ptr 10 0 0),(6,I 7),(70,B true)],[(10,BOX [I 7,I a,I b,I x,B m.Neg,SL (cI .u32) m.Num,SL (cI .u32) m.Den])]⟩) (v:=some ()) 10 (.ps 1000003 [.k [1,2,6,70] [10]] (.ret ())) (by kernel_rfl) () rfl)
 (iI (q:=.tmp 70) (x:=nav [1,0,1,0,1,1,1,1,1,1,1,1,1,1,1,0] (ah Tryz.f138)) (y:=nav [1,0,1,0,1,1,1,1,1,1,1,1,1,1,1,1] (ah Tryz.f138)) (t:=true) (b:=true) (by kernel_rfl) rfl rfl (uy (x:=nav [1,0,1,0,1,1,1,1,1,1,1,1,1,1,1,0,0] (ah Tryz.f138)) (y:=nav [1,0,1,0,1,1,1,1,1,1,1,1,1,1,1,0,1] (ah Tryz.f138)) (by kernel_rfl) (fun h=>by cases h) (F8 (id:=13) (ops:=opsOf (nav [1,0,1,0,1,1,1,1,1,1,1,1,1,1,1,0,0] (ah Tryz.f138))) (d:=true) (by kernel_rfl) (abX (P:=Tryz.prog) (n:=10) (so:=(fun y:Rat×Int=>(⟨86,0,[(80,AG Rat.D y.1),(81,I y.2)],[]⟩:St))) (v:=bif decide (0≤a) then bif decide (a.toNat<v.length) then (jP (nth v a.toNat) x).bind fun x0=>some x0 else none else none) 200 (.op 130006 (.el Rat.D v .dn) (.call [] [] (BO (nth v a.toNat) x) .no fun x0=>.ret x0)) (by kernel_rfl) y _ hy (Zi (ps:=[]) (s':=(fun y:Rat×Int=>(⟨86,0,[(80,AG Rat.D y.1),(81,I y.2)],[]⟩:St)) y) (id:=189) (by kernel_rfl) (by kernel_rfl) (by kernel_rfl) (by kernel_rfl) rfl (by kernel_rfl) (by kernel_rfl) (aaL y.1 y.2 he)))))))))))))))))))))
def iL (v:List Rat) (o:TOp):Option Int:=
 match (if o.Code=5 then zy v o.A_ o.B_ o.Exp else if o.Code=7 then zx v o.A_ o.B_ o.Exp else none) with
 | some y=>bif y.2 != 0 then some y.2 else none
 | none=>none
theorem Oe (v:List Rat) (o:TOp) (e:Int) (h:iL v o=some e):Np Tryz.prog 138 [AG TOp.D o,SL Rat.D v] (chE e):=by
 obtain ⟨c,a,b,x,m⟩:=o
 unfold iL at h
 split at h
 ·rename_i y hy
  cases he:(y.2 != 0) with
  | false=>rw[he] at h;cases h
  | true=>
   rw[he] at h
   obtain rfl:y.2=e:=by simpa using h
   split at hy
   ·rename_i hc
    obtain rfl:c=5:=hc
    exact Ue v a b x m y hy he
   ·split at hy
    ·rename_i hc
     obtain rfl:c=7:=hc
     exact SV v a b x m y hy he
    ·cases hy
 ·cases h
def lY (t:Tape) (x:List Rat) (i:Nat) (v:List Rat):St:=⟨38,13,[(2,.ptr 10 0 0),(4,.ptr 11 0 0),(5,.ptr 12 0 0),(11,SL Rat.D x),(12,I ((x.length:Nat):Int)),(13,I ((i:Nat):Int))],[(10,BOX [I t.Ins,SL TOp.D t.Ops,SL (cI .i64) t.aH]),(11,BOX [bZ 100010 v]),(12,BOX [I 0]),(100010,dG 3 Rat.D v)]⟩
def pU (t:Tape) (x:List Rat) (v:List Rat):St:=⟨38,13,[(2,.ptr 10 0 0),(4,.ptr 11 0 0),(5,.ptr 12 0 0)],[(10,BOX [I t.Ins,SL TOp.D t.Ops,SL (cI .i64) t.aH]),(11,BOX [bZ 100010 v]),(12,BOX [I 0]),(100010,dG 3 Rat.D v)]⟩
def ql (t:Tape) (x:List Rat) (i:Nat) (v:List Rat):Option ((Nat×List Rat)⊕(List Rat)):=
 bif decide (((i:Nat):Int)<((x.length:Nat):Int)) then
  bif decide (i<x.length) then
  (qL (nth x i)).bind fun x0=>
  bif decide (v.length+1≤2147483648) then
  bif inK .i64 (((i:Nat):Int)+1) then
  some (.inl (i+1,v++[x0]))
  else none
  else none
  else none
 else
  some (.inr v)
theorem Wl [Df] (t:Tape) (x:List Rat):∀σ:Nat×List Rat,aJ Tryz.prog (nav [1,1,0,1,0,0] (ah Tryz.f78)) (fun (σ:Nat×List Rat)=>lY t x σ.1 σ.2) (fun (_:List Rat)=>(.exit 0)) (fun (y:List Rat)=>pU t x y) σ (ql t x σ.1 σ.2)
 | (i,[])=>aB 1010 (.br 100000014 (.op 40000 (.el Rat.D x (.up i)) (.call [] [] (nV (nth x i)) .no fun x0=>.op 50008 (.ap Rat.D [] [x0] 3 fun _=>⟨rfl,rfl⟩) (.ps 1000003 [.k [2,4,5,11,12,13] [10,11,12,1012],.m 1012 100010] (.ret (.inl (i+1,[x0])))))) (.ps 1000003 [.k [2,4,5] [10,11,12,100010]] (.ret (.inr [])))) (by kernel_rfl)
 | (i,v_h::v_t)=>aB 1010 (.br 100000014 (.op 40000 (.el Rat.D x (.up i)) (.call [] [] (nV (nth x i)) .no fun x0=>.op 50008 (.ap Rat.D (v_h::v_t) [x0] 3 fun _=>⟨rfl,rfl⟩) (.ps 1000003 [.k [2,4,5,11,12,13] [10,11,12,1012],.m 1012 100010] (.ret (.inl (i+1,(v_h::v_t)++[x0])))))) (.ps 1000003 [.k [2,4,5] [10,11,12,100010]] (.ret (.inr (v_h::v_t))))) (by kernel_rfl)
def lD (t:Tape) (x:List Rat) (i:Nat) (v:List Rat):Option (List Rat):=aK (fun (σ:Nat×List Rat)=>ql t x σ.1 σ.2) FU (i,v)
theorem Vl [Df] (t:Tape) (x:List Rat) (i:Nat) (v:List Rat):∀y:List Rat,lD t x i v=some y→Runs Tryz.prog (.loop (nav [1,1,0,1,0,0] (ah Tryz.f78))) (lY t x i v) ((.exit 0)) ((fun (y:List Rat)=>pU t x y) y):=
 aU (head:=fun (σ:Nat×List Rat)=>lY t x σ.1 σ.2) (eo:=fun (_:List Rat)=>(.exit 0)) (so:=fun (y:List Rat)=>pU t x y) (Wl t x) (fun _ h=>by cases h) FU (i,v)
def iG (t:Tape) (i:Nat) (v:List Rat):St:=⟨38,13,[(4,.ptr 11 0 0),(5,.ptr 12 0 0),(24,SL TOp.D t.Ops),(25,I ((t.Ops.length:Nat):Int)),(26,I ((i:Nat):Int))],[(11,BOX [bZ 100010 v]),(12,BOX [I 0]),(100010,dG 3 Rat.D v)]⟩
def dN (t:Tape) (v:List Rat):St:=⟨38,13,[(4,.ptr 11 0 0),(5,.ptr 12 0 0)],[(11,BOX [bZ 100010 v]),(12,BOX [I 0]),(100010,dG 3 Rat.D v)]⟩
def jR (t:Tape) (i:Nat) (v:List Rat):Option ((Nat×List Rat)⊕(List Rat)):=
 bif decide (((i:Nat):Int)<((t.Ops.length:Nat):Int)) then
  bif decide (i<t.Ops.length) then
  (su v (nth t.Ops i)).bind fun x1=>
  bif decide (v.length+1≤2147483648) then
  bif inK .i64 (((i:Nat):Int)+1) then
  some (.inl (i+1,v++[x1]))
  else none
  else none
  else none
 else
  some (.inr v)
theorem Q9 [Df] (t:Tape):∀σ:Nat×List Rat,aJ Tryz.prog (nav [1,1,1,0,1,0,0] (ah Tryz.f78)) (fun (σ:Nat×List Rat)=>iG t σ.1 σ.2) (fun (_:List Rat)=>(.exit 2)) (fun (y:List Rat)=>dN t y) σ (jR t σ.1 σ.2)
 | (i,[])=>aB 1010 (.br 100000027 (.op 90000 (.el TOp.D t.Ops (.up i)) (.call [] [] (XB (nth t.Ops i)) .no fun x1=>.op 100010 (.ap Rat.D [] [x1] 3 fun _=>⟨rfl,rfl⟩) (.ps 1000003 [.k [4,5,24,25,26] [11,12,1012],.m 1012 100010] (.ret (.inl (i+1,[x1])))))) (.ps 1000003 [.k [4,5] [11,12,100010]] (.ret (.inr [])))) (by kernel_rfl)
 | (i,v_h::v_t)=>aB 1010 (.br 100000027 (.op 90000 (.el TOp.D t.Ops (.up i)) (.call [100010] [] (ZT (v_h::v_t) (nth t.Ops i)) .no fun x1=>.op 100010 (.ap Rat.D (v_h::v_t) [x1] 3 fun _=>⟨rfl,rfl⟩) (.ps 1000003 [.k [4,5,24,25,26] [11,12,1012],.m 1012 100010] (.ret (.inl (i+1,(v_h::v_t)++[x1])))))) (.ps 1000003 [.k [4,5] [11,12,100010]] (.ret (.inr (v_h::v_t))))) (by kernel_rfl)
theorem Xx [Df] (t:Tape) (i:Nat) (v:List Rat) (e:Int) (hi:decide (((i:Nat):Int)<((t.Ops.length:Nat):Int))=true) (he:iL v (nth t.Ops i)=some e):
  Runs Tryz.prog (nav [1,1,1,0,1,0,0] (ah Tryz.f78)) (iG t i v) (.panic (chE e)) (dN t v):=by
 have hi2:decide (i<t.Ops.length)=true:=by rw[decide_eq_true_eq] at hi ⊢;omega
 exact match v,he with
 | [],he=>
  Ye (s1:=(⟨38,13,[(4,.ptr 11 0 0),(5,.ptr 12 0 0),(31,AG TOp.D (nth t.Ops i)),(32,bZ 100010 ([]:List Rat))],[(11,BOX [bZ 100010 ([]:List Rat)]),(12,BOX [I 0]),(100010,dG 3 Rat.D ([]:List Rat))]⟩:St)) (hs:=[.k [4,5] [11,12,100010]]) (s2:=dN t ([]:List Rat)) (hs':=[]) (by kernel_rfl)
  (bP (x:=nav [1,1,1,0,1,0,0,0] (ah Tryz.f78)) (y:=nav [1,1,1,0,1,0,0,1] (ah Tryz.f78)) (s1:=⟨38,13,[(4,.ptr 11 0 0),(5,.ptr 12 0 0),(24,SL TOp.D t.Ops),(26,I ((i:Nat):Int)),(27,B (decide (((i:Nat):Int)<((t.Ops.length:Nat):Int))))],[(11,BOX [bZ 100010 ([]:List Rat)]),(12,BOX [I 0]),(100010,dG 3 Rat.D ([]:List Rat))]⟩) (by kernel_rfl) (iM (R:=Unit) (eo:=fun _=>.normal) (so:=fun _=>⟨38,13,[(4,.ptr 11 0 0),(5,.ptr 12 0 0),(24,SL TOp.D t.Ops),(26,I ((i:Nat):Int)),(27,B (decide (((i:Nat):Int)<((t.Ops.length:Nat):Int))))],[(11,BOX [bZ 100010 ([]:List Rat)]),(12,BOX [I 0]),(100010,dG 3 Rat.D ([]:List Rat))]⟩) (v:=some ()) 1010 (.ps 1000003 [.k [4,5,24,26,27] [11,12,100010]] (.ret ())) (by kernel_rfl) () rfl)
  (bP (x:=nav [1,1,1,0,1,0,0,1,0] (ah Tryz.f78)) (y:=nav [1,1,1,0,1,0,0,1,1] (ah Tryz.f78)) (s1:=⟨38,13,[(4,.ptr 11 0 0),(5,.ptr 12 0 0),(24,SL TOp.D t.Ops),(26,I ((i:Nat):Int))],[(11,BOX [bZ 100010 ([]:List Rat)]),(12,BOX [I 0]),(100010,dG 3 Rat.D ([]:List Rat))]⟩) (by kernel_rfl)
   (iI (q:=.tmp 27) (x:=nav [1,1,1,0,1,0,0,1,0,0] (ah Tryz.f78)) (y:=nav [1,1,1,0,1,0,0,1,0,1] (ah Tryz.f78)) (t:=decide (((i:Nat):Int)<((t.Ops.length:Nat):Int))) (b:=true) (by kernel_rfl) rfl hi (iM (c:=nav [1,1,1,0,1,0,0,1,0,0] (ah Tryz.f78)) (R:=Unit) (eo:=fun _=>.normal) (so:=fun _=>⟨38,13,[(4,.ptr 11 0 0),(5,.ptr 12 0 0),(24,SL TOp.D t.Ops),(26,I ((i:Nat):Int))],[(11,BOX [bZ 100010 ([]:List Rat)]),(12,BOX [I 0]),(100010,dG 3 Rat.D ([]:List Rat))]⟩) (v:=some ()) 1010 (.ps 1000003 [.k [4,5,24,26] [11,12,100010]] (.ret ())) (by kernel_rfl) () rfl))
  (uy (x:=nav [1,1,1,0,1,0,0,1,1,0] (ah Tryz.f78)) (y:=nav [1,1,1,0,1,0,0,1,1,1] (ah Tryz.f78)) (by kernel_rfl) (fun h=>by cases h)
  (yR (id:=3) (x:=nav [1,1,1,0,1,0,0,1,1,0,0] (ah Tryz.f78)) (by kernel_rfl) (fun h=>by cases h)
  (bP (x:=nav [1,1,1,0,1,0,0,1,1,0,0,0] (ah Tryz.f78)) (y:=nav [1,1,1,0,1,0,0,1,1,0,0,1] (ah Tryz.f78)) (s1:=⟨38,13,[(4,.ptr 11 0 0),(5,.ptr 12 0 0),(9,.ptr 1010 0 0)],[(11,BOX [bZ 100010 ([]:List Rat)]),(12,BOX [I 0]),(100010,dG 3 Rat.D ([]:List Rat)),(1010,BOX [I (nth t.Ops i).Code,I (nth t.Ops i).A_,I (nth t.Ops i).B_,I (nth t.Ops i).Exp,B (nth t.Ops i).Num.Neg,SL (cI .u32) (nth t.Ops i).Num.Num,SL (cI .u32) (nth t.Ops i).Num.Den])]⟩) (by kernel_rfl) (iM (R:=Unit) (eo:=fun _=>.normal) (so:=fun _=>⟨38,13,[(4,.ptr 11 0 0),(5,.ptr 12 0 0),(9,.ptr 1010 0 0)],[(11,BOX [bZ 100010 ([]:List Rat)]),(12,BOX [I 0]),(100010,dG 3 Rat.D ([]:List Rat)),(1010,BOX [I (nth t.Ops i).Code,I (nth t.Ops i).A_,I (nth t.Ops i).B_,I (nth t.Ops i).Exp,B (nth t.Ops i).Num.Neg,SL (cI .u32) (nth t.Ops i).Num.Num,SL (cI .u32) (nth t.Ops i).Num.Den])]⟩) (v:=bif decide (i<t.Ops.length) then some () else none) 1010 (.op 90000 (.el TOp.D t.Ops (.up i)) (.ps 1000003 [.k [4,5,9] [11,12,100010,1010]] (.ret ()))) (by kernel_rfl) () (by rw[hi2];rfl))
  (F8 (id:=10) (ops:=opsOf (nav [1,1,1,0,1,0,0,1,1,0,0,1] (ah Tryz.f78))) (d:=true) (by kernel_rfl) (abX (P:=Tryz.prog) (n:=3) (so:=(fun _:Unit=>(⟨38,13,[(4,.ptr 11 0 0),(5,.ptr 12 0 0),(31,AG TOp.D (nth t.Ops i)),(32,bZ 100010 ([]:List Rat))],[(11,BOX [bZ 100010 ([]:List Rat)]),(12,BOX [I 0]),(100010,dG 3 Rat.D ([]:List Rat))]⟩:St))) (v:=some ()) 1020 (.ret ()) (by kernel_rfl) () _ rfl
   (Zi (ps:=[.n 32,.k [31,32] []]) (s':=⟨38,13,[(31,AG TOp.D (nth t.Ops i)),(32,SL Rat.D ([]:List Rat))],[]⟩) (id:=138) (by kernel_rfl) (by kernel_rfl) (by kernel_rfl) (by kernel_rfl) (by kernel_rfl) (by kernel_rfl) (by kernel_rfl) (Oe ([]:List Rat) (nth t.Ops i) e he)))))))))
 | vh::vt,he=>
  Ye (s1:=(⟨38,13,[(4,.ptr 11 0 0),(5,.ptr 12 0 0),(31,AG TOp.D (nth t.Ops i)),(32,bZ 100010 (vh::vt))],[(11,BOX [bZ 100010 (vh::vt)]),(12,BOX [I 0]),(100010,dG 3 Rat.D (vh::vt))]⟩:St)) (hs:=[.k [4,5] [11,12,100010]]) (s2:=dN t (vh::vt)) (hs':=[]) (by kernel_rfl)
  (bP (x:=nav [1,1,1,0,1,0,0,0] (ah Tryz.f78)) (y:=nav [1,1,1,0,1,0,0,1] (ah Tryz.f78)) (s1:=⟨38,13,[(4,.ptr 11 0 0),(5,.ptr 12 0 0),(24,SL TOp.D t.Ops),(26,I ((i:Nat):Int)),(27,B (decide (((i:Nat):Int)<((t.Ops.length:Nat):Int))))],[(11,BOX [bZ 100010 (vh::vt)]),(12,BOX [I 0]),(100010,dG 3 Rat.D (vh::vt))]⟩) (by kernel_rfl) (iM (R:=Unit) (eo:=fun _=>.normal) (so:=fun _=>⟨38,13,[(4,.ptr 11 0 0),(5,.ptr 12 0 0),(24,SL TOp.D t.Ops),(26,I ((i:Nat):Int)),(27,B (decide (((i:Nat):Int)<((t.Ops.length:Nat):Int))))],[(11,BOX [bZ 100010 (vh::vt)]),(12,BOX [I 0]),(100010,dG 3 Rat.D (vh::vt))]⟩) (v:=some ()) 1010 (.ps 1000003 [.k [4,5,24,26,27] [11,12,100010]] (.ret ())) (by kernel_rfl) () rfl)
  (bP (x:=nav [1,1,1,0,1,0,0,1,0] (ah Tryz.f78)) (y:=nav [1,1,1,0,1,0,0,1,1] (ah Tryz.f78)) (s1:=⟨38,13,[(4,.ptr 11 0 0),(5,.ptr 12 0 0),(24,SL TOp.D t.Ops),(26,I ((i:Nat):Int))],[(11,BOX [bZ 100010 (vh::vt)]),(12,BOX [I 0]),(100010,dG 3 Rat.D (vh::vt))]⟩) (by kernel_rfl)
   (iI (q:=.tmp 27) (x:=nav [1,1,1,0,1,0,0,1,0,0] (ah Tryz.f78)) (y:=nav [1,1,1,0,1,0,0,1,0,1] (ah Tryz.f78)) (t:=decide (((i:Nat):Int)<((t.Ops.length:Nat):Int))) (b:=true) (by kernel_rfl) rfl hi (iM (c:=nav [1,1,1,0,1,0,0,1,0,0] (ah Tryz.f78)) (R:=Unit) (eo:=fun _=>.normal) (so:=fun _=>⟨38,13,[(4,.ptr 11 0 0),(5,.ptr 12 0 0),(24,SL TOp.D t.Ops),(26,I ((i:Nat):Int))],[(11,BOX [bZ 100010 (vh::vt)]),(12,BOX [I 0]),(100010,dG 3 Rat.D (vh::vt))]⟩) (v:=some ()) 1010 (.ps 1000003 [.k [4,5,24,26] [11,12,100010]] (.ret ())) (by kernel_rfl) () rfl))
  (uy (x:=nav [1,1,1,0,1,0,0,1,1,0] (ah Tryz.f78)) (y:=nav [1,1,1,0,1,0,0,1,1,1] (ah Tryz.f78)) (by kernel_rfl) (fun h=>by cases h)
  (yR (id:=3) (x:=nav [1,1,1,0,1,0,0,1,1,0,0] (ah Tryz.f78)) (by kernel_rfl) (fun h=>by cases h)
  (bP (x:=nav [1,1,1,0,1,0,0,1,1,0,0,0] (ah Tryz.f78)) (y:=nav [1,1,1,0,1,0,0,1,1,0,0,1] (ah Tryz.f78)) (s1:=⟨38,13,[(4,.ptr 11 0 0),(5,.ptr 12 0 0),(9,.ptr 1010 0 0)],[(11,BOX [bZ 100010 (vh::vt)]),(12,BOX [I 0]),(100010,dG 3 Rat.D (vh::vt)),(1010,BOX [I (nth t.Ops i).Code,I (nth t.Ops i).A_,I (nth t.Ops i).B_,I (nth t.Ops i).Exp,B (nth t.Ops i).Num.Neg,SL (cI .u32) (nth t.Ops i).Num.Num,SL (cI .u32) (nth t.Ops i).Num.Den])]⟩) (by kernel_rfl) (iM (R:=Unit) (eo:=fun _=>.normal) (so:=fun _=>⟨38,13,[(4,.ptr 11 0 0),(5,.ptr 12 0 0),(9,.ptr 1010 0 0)],[(11,BOX [bZ 100010 (vh::vt)]),(12,BOX [I 0]),(100010,dG 3 Rat.D (vh::vt)),(1010,BOX [I (nth t.Ops i).Code,I (nth t.Ops i).A_,I (nth t.Ops i).B_,I (nth t.Ops i).Exp,B (nth t.Ops i).Num.Neg,SL (cI .u32) (nth t.Ops i).Num.Num,SL (cI .u32) (nth t.Ops i).Num.Den])]⟩) (v:=bif decide (i<t.Ops.length) then some () else none) 1010 (.op 90000 (.el TOp.D t.Ops (.up i)) (.ps 1000003 [.k [4,5,9] [11,12,100010,1010]] (.ret ()))) (by kernel_rfl) () (by rw[hi2];rfl))
  (F8 (id:=10) (ops:=opsOf (nav [1,1,1,0,1,0,0,1,1,0,0,1] (ah Tryz.f78))) (d:=true) (by kernel_rfl) (abX (P:=Tryz.prog) (n:=3) (so:=(fun _:Unit=>(⟨38,13,[(4,.ptr 11 0 0),(5,.ptr 12 0 0),(31,AG TOp.D (nth t.Ops i)),(32,bZ 100010 (vh::vt))],[(11,BOX [bZ 100010 (vh::vt)]),(12,BOX [I 0]),(100010,dG 3 Rat.D (vh::vt))]⟩:St))) (v:=some ()) 1020 (.ret ()) (by kernel_rfl) () _ rfl
   (Zi (ps:=[.z 32,.k [31,32] []]) (s':=⟨38,13,[(31,AG TOp.D (nth t.Ops i)),(32,SL Rat.D (vh::vt))],[]⟩) (id:=138) (by kernel_rfl) (by kernel_rfl) (by kernel_rfl) (by kernel_rfl) (by kernel_rfl) (by kernel_rfl) (by kernel_rfl) (Oe (vh::vt) (nth t.Ops i) e he)))))))))
def bV (t:Tape) (i:Nat) (v:List Rat):Option ((Nat×List Rat)⊕(List Rat⊕(List Rat×Int))):=
 match (bif decide (((i:Nat):Int)<((t.Ops.length:Nat):Int)) then iL v (nth t.Ops i) else none) with
 | some e=>some (.inr (.inr (v,e)))
 | none=>(jR t i v).map fun x=>match x with | .inl σ=>.inl σ | .inr v=>.inr (.inl v)
abbrev ad4 (y:List Rat⊕(List Rat×Int)):Exit:=aN y (fun _=>.exit 2) (fun p=>.panic (chE p.2))
abbrev aem (t:Tape) (y:List Rat⊕(List Rat×Int)):St:=aN y (fun v=>dN t v) (fun p=>dN t p.1)
theorem UW [Df] (t:Tape) (σ:Nat×List Rat):aJ Tryz.prog (nav [1,1,1,0,1,0,0] (ah Tryz.f78)) (fun (σ:Nat×List Rat)=>iG t σ.1 σ.2) ad4 (aem t) σ (bV t σ.1 σ.2):=by
 obtain ⟨i,v⟩:=σ
 obtain ⟨h1,h2⟩:=Q9 t (i,v)
 have key:∀e,(bif decide (((i:Nat):Int)<((t.Ops.length:Nat):Int)) then iL v (nth t.Ops i) else none)=some e→decide (((i:Nat):Int)<((t.Ops.length:Nat):Int))=true∧iL v (nth t.Ops i)=some e:=fun e h=>by
  cases hd:decide (((i:Nat):Int)<((t.Ops.length:Nat):Int)) with
  | false=>rw[hd] at h;cases h
  | true=>rw[hd] at h;exact ⟨rfl,h⟩
 refine ⟨fun σ' h=>?_,fun y h=>?_⟩
 ·simp only[bV] at h
  split at h
  ·cases h
  ·rw[Option.map_eq_some_iff] at h
   obtain ⟨x,hx,h⟩:=h
   cases x with
   | inl σ2=>cases h;exact h1 _ hx
   | inr z=>cases h
 ·simp only[bV] at h
  split at h
  ·rename_i e he
   cases h
   obtain ⟨k1,k2⟩:=key e he
   exact Xx t i v e k1 k2
  ·rw[Option.map_eq_some_iff] at h
   obtain ⟨x,hx,h⟩:=h
   cases x with
   | inl σ2=>cases h
   | inr z=>cases h;exact h2 _ hx
def nD (t:Tape) (i:Nat) (v:List Rat):Option (List Rat⊕(List Rat×Int)):=aK (fun (σ:Nat×List Rat)=>bV t σ.1 σ.2) FU (i,v)
theorem Jq [Df] (t:Tape) (i:Nat) (v:List Rat):∀y,nD t i v=some y→Runs Tryz.prog (.loop (nav [1,1,1,0,1,0,0] (ah Tryz.f78))) (iG t i v) (ad4 y) (aem t y):=
 aU (head:=fun (σ:Nat×List Rat)=>iG t σ.1 σ.2) (eo:=ad4) (so:=aem t) (UW t) (fun y h=>by rcases y with y | y<;>cases h) FU (i,v)
theorem adB [Df] (t:Tape) (x:List Rat):Runs Tryz.prog (nav [1,1,0,0] (ah Tryz.f78)) ⟨38,13,[(1,SL Rat.D x),(2,.ptr 10 0 0),(4,.ptr 11 0 0),(5,.ptr 12 0 0)],[(10,BOX [I t.Ins,SL TOp.D t.Ops,SL (cI .i64) t.aH]),(11,BOX [gq]),(12,BOX [I 0])]⟩ .normal (lY t x 0 []):=
 iM (R:=Unit) (eo:=fun _=>.normal) (so:=fun _=>lY t x 0 []) (v:=some ()) 1010 (.op 20002 (.ln Rat.D x) (.ps 1000003 [.k [2,4,5,11,12,13] [10,11,12,100010]] (.ret ()))) (by kernel_rfl) () rfl
theorem ad2 [Df] (t:Tape) (x v:List Rat) (h:lD t x 0 []=some v):Runs Tryz.prog (nav [1,1,0,1] (ah Tryz.f78)) (lY t x 0 []) .normal (pU t x v):=
 (show nav [1,1,0,1] (ah Tryz.f78)=.block 0 (.loop (nav [1,1,0,1,0,0] (ah Tryz.f78))) by kernel_rfl)▸zK (Vl t x 0 [] v h)
theorem aeB [Df] (t:Tape) (x v:List Rat):Runs Tryz.prog (nav [1,1,1,0,0] (ah Tryz.f78)) (pU t x v) .normal (iG t 0 v):=
 iM (R:=Unit) (eo:=fun _=>.normal) (so:=fun _=>iG t 0 v) (v:=some ()) 1010 (.op 70004 (.ln TOp.D t.Ops) (.ps 1000003 [.k [4,5,24,25,26] [11,12,100010]] (.ret ()))) (by kernel_rfl) () rfl
theorem ah8 [Df] (t:Tape) (v:List Rat):Runs Tryz.prog (nav [1,1,1,1] (ah Tryz.f78)) (dN t v) .ret (⟨38,13,[(4,.ptr 11 0 0),(5,.ptr 12 0 0)],[(11,BOX [SL Rat.D v]),(12,BOX [I 0])]⟩:St):=
 match v with
 | []=>iM (R:=Unit) (eo:=fun _=>.ret) (so:=fun _=>⟨38,13,[(4,.ptr 11 0 0),(5,.ptr 12 0 0)],[(11,BOX [SL Rat.D []]),(12,BOX [I 0])]⟩) (v:=some ()) 1010 (.ps 1000003 [.b 11,.k [4,5] [11,12]] (.ret ())) (by kernel_rfl) () rfl
 | vh::vt=>iM (R:=Unit) (eo:=fun _=>.ret) (so:=fun _=>⟨38,13,[(4,.ptr 11 0 0),(5,.ptr 12 0 0)],[(11,BOX [SL Rat.D (vh::vt)]),(12,BOX [I 0])]⟩) (v:=some ()) 1010 (.ps 1000003 [.b 11,.k [4,5] [11,12]] (.ret ())) (by kernel_rfl) () rfl
theorem aaP [Df] (t:Tape) (x v v2:List Rat) (h:lD t x 0 []=some v) (h2:nD t 0 v=some (.inl v2)):Runs Tryz.prog (nav [1,1] (ah Tryz.f78)) ⟨38,13,[(1,SL Rat.D x),(2,.ptr 10 0 0),(4,.ptr 11 0 0),(5,.ptr 12 0 0)],[(10,BOX [I t.Ins,SL TOp.D t.Ops,SL (cI .i64) t.aH]),(11,BOX [gq]),(12,BOX [I 0])]⟩ .ret (⟨38,13,[(4,.ptr 11 0 0),(5,.ptr 12 0 0)],[(11,BOX [SL Rat.D v2]),(12,BOX [I 0])]⟩:St):=
 bP (x:=nav [1,1,0] (ah Tryz.f78)) (y:=nav [1,1,1] (ah Tryz.f78)) (by kernel_rfl) (bP (x:=nav [1,1,0,0] (ah Tryz.f78)) (y:=nav [1,1,0,1] (ah Tryz.f78)) (by kernel_rfl) (adB t x) (ad2 t x v h))
  (bP (x:=nav [1,1,1,0] (ah Tryz.f78)) (y:=nav [1,1,1,1] (ah Tryz.f78)) (by kernel_rfl) (bP (x:=nav [1,1,1,0,0] (ah Tryz.f78)) (y:=nav [1,1,1,0,1] (ah Tryz.f78)) (by kernel_rfl) (aeB t x v)
   ((show nav [1,1,1,0,1] (ah Tryz.f78)=.block 2 (.loop (nav [1,1,1,0,1,0,0] (ah Tryz.f78))) by kernel_rfl)▸zK (Jq t 0 v (.inl v2) h2))) (ah8 t v2))
theorem Y2 [Df] (t:Tape) (x v v2:List Rat) (e:Int) (h:lD t x 0 []=some v) (h2:nD t 0 v=some (.inr (v2,e))):Runs Tryz.prog (nav [1,1] (ah Tryz.f78)) ⟨38,13,[(1,SL Rat.D x),(2,.ptr 10 0 0),(4,.ptr 11 0 0),(5,.ptr 12 0 0)],[(10,BOX [I t.Ins,SL TOp.D t.Ops,SL (cI .i64) t.aH]),(11,BOX [gq]),(12,BOX [I 0])]⟩ (.panic (chE e)) (dN t v2):=
 bP (x:=nav [1,1,0] (ah Tryz.f78)) (y:=nav [1,1,1] (ah Tryz.f78)) (by kernel_rfl) (bP (x:=nav [1,1,0,0] (ah Tryz.f78)) (y:=nav [1,1,0,1] (ah Tryz.f78)) (by kernel_rfl) (adB t x) (ad2 t x v h))
  (uy (x:=nav [1,1,1,0] (ah Tryz.f78)) (y:=nav [1,1,1,1] (ah Tryz.f78)) (by kernel_rfl) (fun h=>by cases h) (bP (x:=nav [1,1,1,0,0] (ah Tryz.f78)) (y:=nav [1,1,1,0,1] (ah Tryz.f78)) (by kernel_rfl) (aeB t x v)
   (yR (id:=2) (x:=.loop (nav [1,1,1,0,1,0,0] (ah Tryz.f78))) (by kernel_rfl) (fun h=>by cases h) (Jq t 0 v (.inr (v2,e)) h2))))
def Gp (t:Tape) (x:List Rat):Option (List Rat×Int):=(lD t x 0 []).bind fun v=>(nD t 0 v).bind fun y=>some (aN y (fun v=>(v,0)) (fun _=>([],3)))
theorem aaG (t:Tape) (x:List Rat):∀y,(some ():Option Unit)=some y→Runs Tryz.prog (nav [0] (ah Tryz.f78)) ⟨Tryz.f78.ntmps,0,Gu 0 [AG Tape.D t,SL Rat.D x],[]⟩ .normal ⟨38,0,[(1,SL Rat.D x),(2,.ptr 10 0 0),(4,.ptr 11 0 0),(5,.ptr 12 0 0)],[(10,BOX [I t.Ins,SL TOp.D t.Ops,SL (cI .i64) t.aH]),(11,BOX [gq]),(12,BOX [I 0])]⟩:=
 iM (eo:=fun _=>.normal) (so:=fun _=>⟨38,0,[(1,SL Rat.D x),(2,.ptr 10 0 0),(4,.ptr 11 0 0),(5,.ptr 12 0 0)],[(10,BOX [I t.Ins,SL TOp.D t.Ops,SL (cI .i64) t.aH]),(11,BOX [gq]),(12,BOX [I 0])]⟩) 10 (.ps 1000003 [.k [1,2,4,5] [10,11,12]] (.ret ())) (by kernel_rfl)
end Go.Ab.M
namespace Go.Ab
set_option linter.unusedVariables false
open Go.Proofs Go.Proofs.YtpefcgiiigdcdaaGreat
section
variable {P:Program} {F:Nat→Nat→Prop} {w0:World} {M0:Nat→Nat→Prop} {ι0:Nat→Loc} {s s':St} {ι ι':Nat→Loc} {a a':Act} {w w':World}
theorem Rel.ahD [Df] (R:Rel F w0 M0 ι0 s ι a w) (q:Nat):Rel F w (Mut s.H ι) ι { s with p:=q } ι a w:=
 ⟨R.size,R.defers,R.tmp,R.obj,R.apart,.refl _ _,fun b o h=>.inr h,fun _ _=>rfl,fun b o h=>Nat.lt_of_lt_of_le (R.foreign b o h) R.evo.size,R.dS⟩
theorem Rel.aey [Df] (R:Rel F w0 M0 ι0 s ι a w) (R':Rel F w (Mut s.H ι) ι s' ι' a' w'):Rel F w0 M0 ι0 { s' with p:=0 } ι' a' w':=
 ⟨R'.size,R'.defers,R'.tmp,R'.obj,R'.apart,R.evo.trans R'.evo.os R'.evo.tape R'.evo.output R'.evo.size (N:=Mut s.H ι) R.own R'.evo.cell R'.evo.block,fun b o h=>by
  rcases R'.own b o h with h | h
  ·exact .inl (Nat.le_trans R.evo.size h)
  ·exact R.own b o h,fun k hk=>absurd hk (Nat.not_lt_zero _),R.foreign,R'.dS⟩
end
set_option maxRecDepth 100000
theorem Zd (b c:Nat) (tb tc:TypeId) (x y:Value) (w:World) (hb:w.heap[b]?=some (.cells #[x] tb (0,0))) (hc:w.heap[c]?=some (.cells #[y] tc (0,0))) (hne:b≠c) (t:TypeId) (v:Value):
  CallsD Tryz.prog 137 #[.pointer (some ⟨b,0,none⟩),.pointer (some ⟨c,0,none⟩)] (.panicking [{ v:=.iface t v,recovered:=false }]) w
   fun e u' w'=>e=.returned (.tuple #[])∧u'=.panicking [{ v:=.iface t v,recovered:=true }]∧w'=(w.setRow b #[.slice none 0 0]).setRow c #[.int .i64 3]:=by
 have s1:szT Tryz.prog 32=some 1:=by kernel_rfl
 have s2:szT Tryz.prog 29=some 1:=by kernel_rfl
 have r1:=Bo (P:=Tryz.prog) (w:=w) (b:=b) (o:=0) (v:=.slice none 0 0) s1 rfl hb (by simp) (fun u hu=>by simp[Value.cells] at hu;subst hu;rfl)
 have hc':(w.setRow b #[.slice none 0 0]).heap[c]?=some (.cells #[y] tc (0,0)):=by rw[dX _ _ _ _ (Ne.symm hne)];exact hc
 have r2:=Bo (P:=Tryz.prog) (w:=w.setRow b #[.slice none 0 0]) (b:=c) (o:=0) (v:=.int .i64 3) s2 rfl hc' (by simp) (fun u hu=>by simp[Value.cells] at hu;subst hu;rfl)
 simp[Value.cells] at r1 r2
 refine callsD_of_wpS Tryz.func137 rfl fun c₀ cs hu=>?_
 apply wpS_seq
 apply wpS_region
 simp[wpOpsS,go_sem,recoverD,hu,Tryz.ntmps137,Exit.thenS]
 refine wpS_cond (t:=true) (by simp[Act.eval]) ?_
 refine wpS_of_wp (wp_region ?_)
 simp[List.range,List.range.loop,wpOps,Region.wanted,Act.eval,Act.put,Oper.wp,execOp,Instr.storeAt,Instr.sureAddr,r1,r2,Oper.upon]
 refine .inl (.inl ?_)
 simp[bodyPostS,results,Tryz.results137]
end Go.Ab
namespace Go.Ab.M
open Go.Ab Go.Proofs Go.Proofs.YtpefcgiiigdcdaaGreat
set_option linter.unusedVariables false
abbrev aiC (a:Act):Deferred:={ target:=.fn (.func 137) #[a.eval (.tmp 4),a.eval (.tmp 5)],args:=#[] }
theorem aaq (a:Act) (w:World) (Q:Exit→Act→World→Prop) (ha:a.defers=[]) (hs:a.tmps.size=38)
  (h:Q .normal { tmps:=(a.put (some 10) (.func (.func 137) #[] #[a.eval (.tmp 4),a.eval (.tmp 5)])).tmps,defers:=[aiC a] } w):(nav [1,0] (ah Tryz.f78)).wp Tryz.prog Q a w:=by
 refine wp_region ?_
 have h10:10<a.tmps.size:=by omega
 simp[List.range,List.range.loop,wpOps,go_sem,ha,Act.put,Act.eval,h10,Array.getD] at h ⊢
 exact .inl (.inl h)
theorem aaD {x:Value} {w:World} {I:Nat→Nat→Prop} {ι:Nat→Loc} {r:Nat} (h:RV w I ι x (.ptr r 0 0)) (h0:(ι r).off=0):x=.pointer (some ⟨(ι r).b,0,none⟩):=by
 cases h with
 | ptr=>rw[h0];simp
theorem box1 {c:Array Value} (h:c.size=1):∃x,c=#[x]:=by
 obtain ⟨x,hx⟩:=Yy c (by simpa using h)
 exact ⟨x,hx⟩
abbrev aiv (t:Tape) (x:List Rat):St:=⟨38,0,[(1,SL Rat.D x),(2,.ptr 10 0 0),(4,.ptr 11 0 0),(5,.ptr 12 0 0)],[(10,BOX [I t.Ins,SL TOp.D t.Ops,SL (cI .i64) t.aH]),(11,BOX [gq]),(12,BOX [I 0])]⟩
set_option maxHeartbeats 1000000 in
theorem Xm (t:Tape) (x v:List Rat) (y:List Rat⊕(List Rat×Int)) (h1:lD t x 0 []=some v) (h2:nD t 0 v=some y):
  aj Tryz.prog 78 0 [AG Tape.D t,SL Rat.D x] [] (.tup [SL Rat.D (aN y (fun v=>v) (fun _=>[])),I (aN y (fun _=>0) (fun _=>3))]) []:=by
 intro F w ι vs hpre
 refine calls_of_wp_defers Tryz.func78 (show (Tryz.f78).body=some (.seq (nav [0] (ah Tryz.f78)) (.seq (nav [1,0] (ah Tryz.f78)) (nav [1,1] (ah Tryz.f78)))) by kernel_rfl) ?_
 have hnt:(Tryz.f78).ntmps=38:=by kernel_rfl
 have R:Rel F w (Mut [] ι) ι ⟨(Tryz.f78).ntmps,0,Gu 0 [AG Tape.D t,SL Rat.D x],[]⟩ ι { tmps:=vs++Array.replicate ((Tryz.f78).ntmps-vs.size) undef,defers:=[] } w:=by
  refine ⟨by rw[hnt];simp[hpre.n],rfl,fun t'=>?_,hpre.obj,hpre.apart,.refl _ _,fun b o h=>.inr h,fun k _=>rfl,hpre.foreign,hpre.dS⟩
  rcases Lm [AG Tape.D t,SL Rat.D x] 0 t' with ⟨j,k1,y,k2,k3⟩ | h
  ·rw[k3]
   obtain rfl:j=t':=by omega
   have hj:j<vs.size:=by rw[hpre.n];exact (List.getElem?_eq_some_iff.1 k2).1
   refine hpre.arg j _ y ?_ k2
   rw[Array.getElem?_eq_getElem hj]
   simp[Array.getD_eq_getD_getElem?,Array.getElem?_append_left hj,Array.getElem?_eq_getElem hj]
  ·rw[h];exact .dead _
 refine wp_seq (wp_mono (aaG t x () rfl F w (Mut [] ι) ι ι _ w R) fun e' a' w' h'=>?_)
 obtain ⟨rfl,ι1,R1⟩:=h'
 refine wp_seq ?_
 refine aaq a' w' _ R1.defers R1.size ?_
 generalize hd:aiC a'=d
 have R2:@Rel ⟨[d]⟩ F w (Mut [] ι) ι (aiv t x) ι1 { tmps:=(a'.put (some 10) (.func (.func 137) #[] #[a'.eval (.tmp 4),a'.eval (.tmp 5)])).tmps,defers:=[d] } w':=by
  refine @Rel.mk ⟨[d]⟩ _ _ _ _ _ _ _ _ (by have:=R1.size;simpa[Act.put] using this) rfl (fun t'=>?_) R1.obj R1.apart R1.evo R1.own R1.pin R1.foreign R1.dS
  by_cases e:t'=10
  ·rw[e];exact .dead _
  ·have:=R1.tmp t'
   simp only[Act.put,Array.getD_eq_getD_getElem?,Array.getElem?_setIfInBounds,if_neg (Ne.symm e)] at this ⊢
   exact this
 have R2':=@Rel.ahD _ _ _ _ _ _ _ _ ⟨[d]⟩ R2 13
 have hinv:∀w,(invoke d.target d.args).run Tryz.prog w=.ok (.enter 137 #[a'.eval (.tmp 4),a'.eval (.tmp 5)]) w:=fun w=>by rw[←hd];simp[go_sem]
 have htar:d.target=.fn (.func 137) #[a'.eval (.tmp 4),a'.eval (.tmp 5)]:=by rw[←hd]
 cases y with
 | inl v2=>
  refine wp_mono (@aaP ⟨[d]⟩ t x v v2 h1 h2 F w' _ ι1 ι1 _ w' R2') fun e'' a'' w'' h''=>?_
  obtain ⟨rfl,ι2,R3⟩:=h''
  have R4:=@Rel.aey _ _ _ _ _ _ _ _ _ _ _ _ ⟨[d]⟩ R2 R3
  obtain ⟨hdd,v3,k1,post⟩:=Yi (D:=⟨[d]⟩) (P:=Tryz.prog) (fn:=Tryz.f78) (rs:=[SL Rat.D v2,I 0]) R4 rfl (by kernel_rfl)
  have hdd:a''.defers=[d]:=hdd
  show Leaves Tryz.prog Tryz.f78 a''.tmps _ a''.defers .returning w''
  rw[hdd]
  refine ⟨(by intro h;cases h),_,_,_,_,htar,hinv w'',fun c cs hc=>?_⟩
  obtain ⟨e,u',wz,fr,hR,hx⟩:=Go.Proofs.YtpefcgiiigdcdaaGreat.run_idle (a'.eval (.tmp 4)) (a'.eval (.tmp 5)) w'' c cs hc
  obtain ⟨⟨v',rfl⟩,rfl,rfl⟩:=hR
  refine ⟨_,_,_,fr,?_,hx⟩
  exact ⟨v3,k1,⟨v3,tie [SL Rat.D v2,I 0],[],ι2,rfl,⟨rfl,rfl⟩,⟨post.res.carry' (Carry.weaken fun b o hi=>⟨Ii,hi.2⟩),fun k o h=>(by cases h),fun k k' o o' h=>(by cases h),post.evo,fun b o h=>(Ii h).elim,post.pin,fun k o h=>(by cases h)⟩⟩⟩
 | inr p=>
  obtain ⟨v2,e⟩:=p
  refine wp_mono (@Y2 ⟨[d]⟩ t x v v2 e h1 h2 F w' _ ι1 ι1 _ w' R2') fun e'' a'' w'' h''=>?_
  obtain ⟨rfl,ι2,R3⟩:=h''
  have p11:ι2 11=ι1 11:=@Rel.pin ⟨[d]⟩ _ _ _ _ _ _ _ _ R3 11 (show 11<13 by decide)
  have p12:ι2 12=ι1 12:=@Rel.pin ⟨[d]⟩ _ _ _ _ _ _ _ _ R3 12 (show 12<13 by decide)
  have o11:au (dN t v2).H 11=BOX [bZ 100010 v2]:=rfl
  have o12:au (dN t v2).H 12=BOX [I 0]:=rfl
  obtain ⟨l11,c11,t11,aij,f11,z11,_⟩:=@Rel.obj ⟨[d]⟩ _ _ _ _ _ _ _ _ R3 11 _ o11
  obtain ⟨l12,c12,t12,hh12,f12,z12,_⟩:=@Rel.obj ⟨[d]⟩ _ _ _ _ _ _ _ _ R3 12 _ o12
  obtain ⟨x11,rfl⟩:=box1 z11
  obtain ⟨x12,rfl⟩:=box1 z12
  have hne:(ι2 11).b≠(ι2 12).b:=fun hb=>by
   have:=@Rel.apart ⟨[d]⟩ _ _ _ _ _ _ _ _ R3 11 12 _ _ o11 o12 hb
   cases this
  have e4:a'.eval (.tmp 4)=.pointer (some ⟨(ι2 11).b,0,none⟩):=by
   have:=aaD (dL R1 (.tmp 4)) (by rw[←p11];exact f11)
   rw[p11];exact this
  have e5:a'.eval (.tmp 5)=.pointer (some ⟨(ι2 12).b,0,none⟩):=by
   have:=aaD (dL R1 (.tmp 5)) (by rw[←p12];exact f12)
   rw[p12];exact this
  have hdd:a''.defers=[d]:=@Rel.defers ⟨[d]⟩ _ _ _ _ _ _ _ _ R3
  show Leaves Tryz.prog Tryz.f78 a''.tmps _ a''.defers (.panicking (chE e)) w''
  rw[hdd]
  have R5:=@Rel.write _ _ _ _ _ _ _ _ ⟨[d]⟩ R3 11 _ (.box [gq]) o11 (w''.setRow (ι2 11).b #[.slice none 0 0]) rfl ku rfl (by simp) (fun b hb=>dX _ _ _ _ hb) (fun o x _ hlt=>by simp[Ob.from] at hlt) (Nat.le_refl _) (fun I hc=>
   ⟨#[.slice none 0 0],t11,setRow_heap _ _ _ _ _ _ aij,f11,rfl,fun i v a hv ha=>by
    match i,hv,ha with
    | 0,hv,ha=>cases hv;cases ha;exact .d (.v _ rfl)⟩)
  have ajg:au ((11,some (Ob.box [gq]))::(dN t v2).H) 12=BOX [I 0]:=rfl
  have aiS:(w''.setRow (ι2 11).b #[.slice none 0 0]).heap[(ι2 12).b]?=some (.cells #[x12] t12 (0,0)):=by rw[dX _ _ _ _ (Ne.symm hne)];exact hh12
  have R6:=@Rel.write _ _ _ _ _ _ _ _ ⟨[d]⟩ R5 12 _ (.box [I 3]) ajg ((w''.setRow (ι2 11).b #[.slice none 0 0]).setRow (ι2 12).b #[.int .i64 3]) rfl ku rfl (by simp) (fun b hb=>dX _ _ _ _ hb) (fun o x _ hlt=>by simp[Ob.from] at hlt) (Nat.le_refl _) (fun I hc=>
   ⟨#[.int .i64 3],t12,setRow_heap _ _ _ _ _ _ aiS,f12,rfl,fun i v a hv ha=>by
    match i,hv,ha with
    | 0,hv,ha=>cases hv;cases ha;exact .d (.v _ rfl)⟩)
  obtain ⟨ι3,R7⟩:=@adi ⟨[d]⟩ [.b 11,.k [4,5] [11,12]] _ ⟨38,13,[(4,.ptr 11 0 0),(5,.ptr 12 0 0)],[(11,BOX [SL Rat.D ([]:List Rat)]),(12,BOX [I 3])]⟩ (by rfl) _ _ _ _ _ _ _ R6
  have R8:=@Rel.aey _ _ _ _ _ _ _ _ _ _ _ _ ⟨[d]⟩ R2 R7
  obtain ⟨_,v3,k1,post⟩:=Yi (D:=⟨[d]⟩) (P:=Tryz.prog) (fn:=Tryz.f78) (rs:=[SL Rat.D ([]:List Rat),I 3]) R8 rfl (by kernel_rfl)
  refine ⟨(by intro h;cases h),_,_,_,_,htar,hinv w'',?_⟩
  rw[e4,e5]
  refine (Zd _ _ t11 t12 x11 x12 w'' aij hh12 hne _ _).mono fun e9 u9 w9 h9=>?_
  obtain ⟨rfl,rfl,rfl⟩:=h9
  exact ⟨v3,k1,⟨v3,tie [SL Rat.D ([]:List Rat),I 3],[],ι3,rfl,⟨rfl,rfl⟩,⟨post.res.carry' (Carry.weaken fun b o hi=>⟨Ii,hi.2⟩),fun k o h=>(by cases h),fun k k' o o' h=>(by cases h),post.evo,fun b o h=>(Ii h).elim,post.pin,fun k o h=>(by cases h)⟩⟩⟩
theorem Y7 (t:Tape) (x:List Rat):∀r,Gp t x=some r→aj Tryz.prog 78 0 [AG Tape.D t,SL Rat.D x] [] (.tup [SL Rat.D r.1,I r.2]) []:=fun r h=>by
 unfold Gp at h
 cases h1:lD t x 0 [] with
 | none=>rw[h1] at h;cases h
 | some v=>
  rw[h1] at h
  cases h2:nD t 0 v with
  | none=>rw[Option.bind_some,h2] at h;cases h
  | some y=>
   rw[Option.bind_some,h2] at h
   cases h
   have:=Xm t x v y h1 h2
   cases y<;>exact this
end Go.Ab.M
end
