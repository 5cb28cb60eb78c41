import Derived.Test.YtpefcgiiigdcdaaGreatTO
import Derived.Test.YtpefcgiiigdcdaaGreatCY
namespace Go.Ab.M
open Go.Proofs
set_option linter.unusedVariables false
set_option maxRecDepth 100000
def tu (tA:Tape) (i:List Pair) (i1:Nat):St:=⟨71,0,[(1,.ptr 10 0 0),(3,bZ 0 i),(9,SL TOp.D tA.Ops),(10,I ((tA.Ops.length:Nat):Int)),(11,I ((i1:Nat):Int))],[(0,dG 2 Pair.D i),(10,BOX [I tA.Ins,SL TOp.D tA.Ops,SL (cI .i64) tA.aH])]⟩
def tV (tA:Tape) (i:List Pair):St:=⟨71,0,[(1,.ptr 10 0 0),(3,bZ 0 i)],[(0,dG 2 Pair.D i),(10,BOX [I tA.Ins,SL TOp.D tA.Ops,SL (cI .i64) tA.aH])]⟩
def gQ (tA:Tape) (i:List Pair) (i1:Nat):Option ((List Pair×Nat)⊕(List Pair)):=
 bif decide (((i1:Nat):Int)<((tA.Ops.length:Nat):Int)) then
 bif decide (i1<tA.Ops.length) then
 bif ((nth tA.Ops i1).Code) != 1 then
 bif inK .i64 (tA.Ins+((i1:Nat):Int)) then
 bif decide (i.length+1≤2147483648) then
 bif decide (((nth tA.Ops i1).Code)≥2) then
 bif decide (((nth tA.Ops i1).Code)≤5) then
 bif inK .i64 (tA.Ins+((i1:Nat):Int)) then
 bif decide ((i++[Pair.mk ((nth tA.Ops i1).A_) (tA.Ins+((i1:Nat):Int))]).length+1≤2147483648) then
 bif inK .i64 (((i1:Nat):Int)+1) then
 some (.inl ((i++[Pair.mk ((nth tA.Ops i1).A_) (tA.Ins+((i1:Nat):Int))])++[Pair.mk ((nth tA.Ops i1).B_) (tA.Ins+((i1:Nat):Int))],i1+1))
 else none
 else none
 else none
 else
 bif inK .i64 (((i1:Nat):Int)+1) then
 some (.inl (i++[Pair.mk ((nth tA.Ops i1).A_) (tA.Ins+((i1:Nat):Int))],i1+1))
 else none
 else
 bif inK .i64 (((i1:Nat):Int)+1) then
 some (.inl (i++[Pair.mk ((nth tA.Ops i1).A_) (tA.Ins+((i1:Nat):Int))],i1+1))
 else none
 else none
 else none
 else
 bif decide (((nth tA.Ops i1).Code)≥2) then
 bif decide (((nth tA.Ops i1).Code)≤5) then
 bif inK .i64 (tA.Ins+((i1:Nat):Int)) then
 bif decide (i.length+1≤2147483648) then
 bif inK .i64 (((i1:Nat):Int)+1) then
 some (.inl (i++[Pair.mk ((nth tA.Ops i1).B_) (tA.Ins+((i1:Nat):Int))],i1+1))
 else none
 else none
 else none
 else
 bif inK .i64 (((i1:Nat):Int)+1) then
 some (.inl (i,i1+1))
 else none
 else
 bif inK .i64 (((i1:Nat):Int)+1) then
 some (.inl (i,i1+1))
 else none
 else none
 else
 some (.inr i)
theorem NR (tA:Tape):∀σ:List Pair×Nat,aJ Tryz.prog (nav [1,1,0,1,0,0] (ah Tryz.f88)) (fun (σ:List Pair×Nat)=>tu tA σ.1 σ.2) (fun (_:List Pair)=>(.exit 0)) (fun (y:List Pair)=>tV tA y) σ (gQ tA σ.1 σ.2)
 | ([],i1)=>aB 1010 (.br 100000012 (.op 40002 (.el TOp.D tA.Ops (.up i1)) (.br 100000018 (.op 60018 (.ap Pair.D [] [Pair.mk ((nth tA.Ops i1).A_) (tA.Ins+((i1:Nat):Int))] 2 fun _=>⟨rfl,rfl⟩) (.br 70008 (.br 100000036 (.op 80018 (.ap Pair.D [Pair.mk ((nth tA.Ops i1).A_) (tA.Ins+((i1:Nat):Int))] [Pair.mk ((nth tA.Ops i1).B_) (tA.Ins+((i1:Nat):Int))] 2 fun _=>⟨rfl,rfl⟩) (.ps 1000003 [.k [1,3,9,10,11] [1014,10],.m 1014 0] (.ret (.inl ([Pair.mk ((nth tA.Ops i1).A_) (tA.Ins+((i1:Nat):Int)),Pair.mk ((nth tA.Ops i1).B_) (tA.Ins+((i1:Nat):Int))],i1+1))))) (.ps 1000003 [.k [1,3,9,10,11] [1012,10],.m 1012 0] (.ret (.inl ([Pair.mk ((nth tA.Ops i1).A_) (tA.Ins+((i1:Nat):Int))],i1+1))))) (.ps 1000003 [.k [1,3,9,10,11] [1012,10],.m 1012 0] (.ret (.inl ([Pair.mk ((nth tA.Ops i1).A_) (tA.Ins+((i1:Nat):Int))],i1+1)))))) (.br 70008 (.br 100000036 (.op 80018 (.ap Pair.D [] [Pair.mk ((nth tA.Ops i1).B_) (tA.Ins+((i1:Nat):Int))] 2 fun _=>⟨rfl,rfl⟩) (.ps 1000003 [.k [1,3,9,10,11] [1012,10],.m 1012 0] (.ret (.inl ([Pair.mk ((nth tA.Ops i1).B_) (tA.Ins+((i1:Nat):Int))],i1+1))))) (.ps 1000003 [.k [1,3,9,10,11] [0,10]] (.ret (.inl ([],i1+1))))) (.ps 1000003 [.k [1,3,9,10,11] [0,10]] (.ret (.inl ([],i1+1))))))) (.ps 1000003 [.k [1,3] [0,10]] (.ret (.inr [])))) (by kernel_rfl)
 | (i_h::i_t,i1)=>aB 1010 (.br 100000012 (.op 40002 (.el TOp.D tA.Ops (.up i1)) (.br 100000018 (.op 60018 (.ap Pair.D (i_h::i_t) [Pair.mk ((nth tA.Ops i1).A_) (tA.Ins+((i1:Nat):Int))] 2 fun _=>⟨rfl,rfl⟩) (.br 70008 (.br 100000036 (.op 80018 (.ap Pair.D ((i_h::i_t)++[Pair.mk ((nth tA.Ops i1).A_) (tA.Ins+((i1:Nat):Int))]) [Pair.mk ((nth tA.Ops i1).B_) (tA.Ins+((i1:Nat):Int))] 2 fun _=>⟨rfl,rfl⟩) (.ps 1000003 [.k [1,3,9,10,11] [1014,10],.m 1014 0] (.ret (.inl (((i_h::i_t)++[Pair.mk ((nth tA.Ops i1).A_) (tA.Ins+((i1:Nat):Int))])++[Pair.mk ((nth tA.Ops i1).B_) (tA.Ins+((i1:Nat):Int))],i1+1))))) (.ps 1000003 [.k [1,3,9,10,11] [1012,10],.m 1012 0] (.ret (.inl ((i_h::i_t)++[Pair.mk ((nth tA.Ops i1).A_) (tA.Ins+((i1:Nat):Int))],i1+1))))) (.ps 1000003 [.k [1,3,9,10,11] [1012,10],.m 1012 0] (.ret (.inl ((i_h::i_t)++[Pair.mk ((nth tA.Ops i1).A_) (tA.Ins+((i1:Nat):Int))],i1+1)))))) (.br 70008 (.br 100000036 (.op 80018 (.ap Pair.D (i_h::i_t) [Pair.mk ((nth tA.Ops i1).B_) (tA.Ins+((i1:Nat):Int))] 2 fun _=>⟨rfl,rfl⟩) (.ps 1000003 [.k [1,3,9,10,11] [1012,10],.m 1012 0] (.ret (.inl ((i_h::i_t)++[Pair.mk ((nth tA.Ops i1).B_) (tA.Ins+((i1:Nat):Int))],i1+1))))) (.ps 1000003 [.k [1,3,9,10,11] [0,10]] (.ret (.inl ((i_h::i_t),i1+1))))) (.ps 1000003 [.k [1,3,9,10,11] [0,10]] (.ret (.inl ((i_h::i_t),i1+1))))))) (.ps 1000003 [.k [1,3] [0,10]] (.ret (.inr (i_h::i_t))))) (by kernel_rfl)
def sU (tA:Tape) (i:List Pair) (i1:Nat):Option (List Pair):=aK (fun (σ:List Pair×Nat)=>gQ tA σ.1 σ.2) FU (i,i1)
theorem NJ (tA:Tape) (i:List Pair) (i1:Nat):∀y:List Pair,sU tA i i1=some y→Runs Tryz.prog (.loop (nav [1,1,0,1,0,0] (ah Tryz.f88))) (tu tA i i1) ((.exit 0)) ((fun (y:List Pair)=>tV tA y) y):=
 aU (head:=fun (σ:List Pair×Nat)=>tu tA σ.1 σ.2) (eo:=fun (_:List Pair)=>(.exit 0)) (so:=fun (y:List Pair)=>tV tA y) (NR tA) (fun _ h=>by cases h) FU (i,i1)
def tY (tA:Tape) (i:List Pair) (i1:Nat):St:=⟨71,0,[(1,.ptr 10 0 0),(3,bZ 0 i),(49,SL (cI .i64) tA.aH),(50,I ((tA.aH.length:Nat):Int)),(51,I ((i1:Nat):Int))],[(0,dG 2 Pair.D i),(10,BOX [I tA.Ins,SL TOp.D tA.Ops,SL (cI .i64) tA.aH])]⟩
def tX (tA:Tape) (i:List Pair):St:=⟨71,0,[(3,bZ 0 i)],[(0,dG 2 Pair.D i)]⟩
def jY (tA:Tape) (i:List Pair) (i1:Nat):Option ((List Pair×Nat)⊕(List Pair)):=
 bif decide (((i1:Nat):Int)<((tA.aH.length:Nat):Int)) then
 bif decide (i1<tA.aH.length) then
 bif inK .i64 (tA.Ins+((tA.Ops.length:Nat):Int)) then
 bif inK .i64 ((tA.Ins+((tA.Ops.length:Nat):Int))+((i1:Nat):Int)) then
 bif decide (i.length+1≤2147483648) then
 bif inK .i64 (((i1:Nat):Int)+1) then
 some (.inl (i++[Pair.mk (nth tA.aH i1) ((tA.Ins+((tA.Ops.length:Nat):Int))+((i1:Nat):Int))],i1+1))
 else none
 else none
 else none
 else none
 else none
 else
 some (.inr i)
theorem Nc (tA:Tape):∀σ:List Pair×Nat,aJ Tryz.prog (nav [1,1,1,0,1,0,0] (ah Tryz.f88)) (fun (σ:List Pair×Nat)=>tY tA σ.1 σ.2) (fun (_:List Pair)=>(.exit 2)) (fun (y:List Pair)=>tX tA y) σ (jY tA σ.1 σ.2)
 | ([],i1)=>aB 1010 (.br 100000052 (.op 120002 (.el (cI .i64) tA.aH (.up i1)) (.op 130012 (.ln TOp.D tA.Ops) (.op 130024 (.ap Pair.D [] [Pair.mk (nth tA.aH i1) ((tA.Ins+((tA.Ops.length:Nat):Int))+((i1:Nat):Int))] 2 fun _=>⟨rfl,rfl⟩) (.ps 1000003 [.k [1,3,49,50,51] [1011,10],.m 1011 0] (.ret (.inl ([Pair.mk (nth tA.aH i1) ((tA.Ins+((tA.Ops.length:Nat):Int))+((i1:Nat):Int))],i1+1))))))) (.ps 1000003 [.k [3] [0]] (.ret (.inr [])))) (by kernel_rfl)
 | (i_h::i_t,i1)=>aB 1010 (.br 100000052 (.op 120002 (.el (cI .i64) tA.aH (.up i1)) (.op 130012 (.ln TOp.D tA.Ops) (.op 130024 (.ap Pair.D (i_h::i_t) [Pair.mk (nth tA.aH i1) ((tA.Ins+((tA.Ops.length:Nat):Int))+((i1:Nat):Int))] 2 fun _=>⟨rfl,rfl⟩) (.ps 1000003 [.k [1,3,49,50,51] [1011,10],.m 1011 0] (.ret (.inl ((i_h::i_t)++[Pair.mk (nth tA.aH i1) ((tA.Ins+((tA.Ops.length:Nat):Int))+((i1:Nat):Int))],i1+1))))))) (.ps 1000003 [.k [3] [0]] (.ret (.inr (i_h::i_t))))) (by kernel_rfl)
def nZ (tA:Tape) (i:List Pair) (i1:Nat):Option (List Pair):=aK (fun (σ:List Pair×Nat)=>jY tA σ.1 σ.2) FU (i,i1)
theorem Dk (tA:Tape) (i:List Pair) (i1:Nat):∀y:List Pair,nZ tA i i1=some y→Runs Tryz.prog (.loop (nav [1,1,1,0,1,0,0] (ah Tryz.f88))) (tY tA i i1) ((.exit 2)) ((fun (y:List Pair)=>tX tA y) y):=
 aU (head:=fun (σ:List Pair×Nat)=>tY tA σ.1 σ.2) (eo:=fun (_:List Pair)=>(.exit 2)) (so:=fun (y:List Pair)=>tX tA y) (Nc tA) (fun _ h=>by cases h) FU (i,i1)
def yK (tA:Tape):Option (Unit⊕List Pair):=
 (sU tA [] 0).bind fun x0=>
 bif x0.isEmpty then
 (nZ tA [] 0).bind fun x1=>
 bif x1.isEmpty then
 some (.inl ())
 else
 some (.inr x1)
 else
 bif !x0.isEmpty then
 (nZ tA x0 0).bind fun x1=>
 bif x1.isEmpty then
 some (.inl ())
 else
 some (.inr x1)
 else none
theorem Rj (tA:Tape):∀r,yK tA=some r→aj Tryz.prog 88 0 [AG Tape.D tA] [] (adl 0 r) [(0,afV 2 Pair.D r)]:=
 ak (enc:=fun r=>adl 0 r) (aP:=fun r=>[(0,afV 2 Pair.D r)]) 10 (.op 20004 (.ln TOp.D tA.Ops) (.ps 1000001 [.k [1,3,9,10,11] [0,10]] (.lp1 0 (NJ tA [] 0) fun x0=>.cl 1 3 0 2 Pair.D x0 (.ps 1 [.k [1,3] [10]] (.op 100004 (.ln (cI .i64) tA.aH) (.ps 1000001 [.k [1,3,49,50,51] [0,10]] (.lp1 0 (Dk tA [] 0) fun x1=>.cl 5 3 0 2 Pair.D x1 (.ps 5 [.k [3] []] (.ret (.inl ()))) (.ps 5 [.k [3] [0]] (.ret (.inr x1))))))) (.ps 1 [.k [1,3] [0,10]] (.op 100004 (.ln (cI .i64) tA.aH) (.ps 1000001 [.k [1,3,49,50,51] [0,10]] (.ow 1000001 3 0 2 Pair.D x0 .no (.ps 1000001 [.k [1,3,49,50,51] [0,10]] (.lp1 0 (Dk tA x0 0) fun x1=>.cl 5 3 0 2 Pair.D x1 (.ps 5 [.k [3] []] (.ret (.inl ()))) (.ps 5 [.k [3] [0]] (.ret (.inr x1)))))))))))) Tryz.func88 (by kernel_rfl) (by kernel_rfl) (by kernel_rfl) (fun _=>aaM _ _)
def eu (k:Nat) (k2:Nat):St:=⟨61,0,[(0,SL Pair.D ([]:List Pair)),(3,I ((k:Nat):Int)),(4,SL Pair.D (([]:List Pair).drop k)),(5,I ((k2:Nat):Int))],[]⟩
def dY (k:Nat):St:=⟨61,0,[(0,SL Pair.D ([]:List Pair)),(3,I ((k:Nat):Int))],[]⟩
def iP (k:Nat) (k2:Nat):Option (Nat⊕Unit):=
 bif decide (((k2:Nat):Int)<(((([]:List Pair).drop k).length:Nat):Int)) then
 bif decide (k2<(([]:List Pair).drop k).length) then
 bif inK .i64 (((k2:Nat):Int)-1) then
 bif decide (0≤((k2:Nat):Int)-1) then
 bif decide ((((k2:Nat):Int)-1).toNat<(([]:List Pair).drop k).length) then
 bif !((((nth (([]:List Pair).drop k) k2).From)==((nth (([]:List Pair).drop k) ((((k2:Nat):Int)-1).toNat)).From))&&((((nth (([]:List Pair).drop k) k2).To)==((nth (([]:List Pair).drop k) ((((k2:Nat):Int)-1).toNat)).To))&&true)) then
 bif decide (k2<(([]:List Pair).drop k).length) then
 bif decide (k<([]:List Pair).length) then
 none
 else none
 else none
 else
 bif inK .i64 (((k2:Nat):Int)+1) then
 some (.inl (k2+1))
 else none
 else none
 else none
 else none
 else none
 else
 some (.inr ())
theorem oO (k:Nat):∀σ:Nat,aJ Tryz.prog (nav [1,1,0,1,0,0,1,0,0,1,0,1,0,1,0,0] (ah Tryz.f91)) (fun (σ:Nat)=>eu k σ) (fun (_:Unit)=>(.exit 2)) (fun (y:Unit)=>dY k) σ (iP k σ)
 | k2=>aB 2010 (.op 90004 (.ln Pair.D (([]:List Pair).drop k)) (.br 100000032 (.op 110004 (.el Pair.D (([]:List Pair).drop k) (.up k2)) (.op 110014 (.el Pair.D (([]:List Pair).drop k) .dn) (.br 100000044 (.op 120008 (.el Pair.D (([]:List Pair).drop k) (.up k2)) (.op 120012 (.el Pair.D ([]:List Pair) (.up k)) .nil)) (.ps 1000003 [.k [0,3,4,5] []] (.ret (.inl (k2+1))))))) (.ps 1000003 [.k [0,3] []] (.ret (.inr ()))))) (by kernel_rfl)
def jA (k:Nat) (k2:Nat):Option Unit:=aK (fun (σ:Nat)=>iP k σ) FU k2
theorem oL (k:Nat) (k2:Nat):∀y:Unit,jA k k2=some y→Runs Tryz.prog (.loop (nav [1,1,0,1,0,0,1,0,0,1,0,1,0,1,0,0] (ah Tryz.f91))) (eu k k2) ((.exit 2)) ((fun (y:Unit)=>dY k) y):=
 aU (head:=fun (σ:Nat)=>eu k σ) (eo:=fun (_:Unit)=>(.exit 2)) (so:=fun (y:Unit)=>dY k) (oO k) (fun _ h=>by cases h) FU k2
def fK (k:Nat):St:=⟨61,0,[(0,SL Pair.D ([]:List Pair)),(3,I ((k:Nat):Int))],[]⟩
def fO:St:=⟨61,0,[(0,SL Pair.D ([]:List Pair))],[]⟩
def jh (k:Nat):Option (Nat⊕Unit):=
 bif decide (((k:Nat):Int)<((([]:List Pair).length:Nat):Int)) then
 bif decide (k<([]:List Pair).length) then
 bif inK .i64 (((k:Nat):Int)-1) then
 bif decide (0≤((k:Nat):Int)-1) then
 bif decide ((((k:Nat):Int)-1).toNat<([]:List Pair).length) then
 bif ((((nth ([]:List Pair) k).From)==((nth ([]:List Pair) ((((k:Nat):Int)-1).toNat)).From))&&((((nth ([]:List Pair) k).To)==((nth ([]:List Pair) ((((k:Nat):Int)-1).toNat)).To))&&true)) then
 bif decide (k≤([]:List Pair).length) then
 bif decide (([]:List Pair).length≤([]:List Pair).length) then
 (jA k 1).bind fun x0=>
 bif decide (k≤([]:List Pair).length) then
 bif decide (([]:List Pair).length≤([]:List Pair).length) then
 none
 else none
 else none
 else none
 else none
 else
 bif inK .i64 (((k:Nat):Int)+1) then
 some (.inl (k+1))
 else none
 else none
 else none
 else none
 else none
 else
 some (.inr ())
theorem qM:∀σ:Nat,aJ Tryz.prog (nav [1,1,0,1,0,0] (ah Tryz.f91)) (fun (σ:Nat)=>fK σ) (fun (_:Unit)=>(.exit 0)) (fun (y:Unit)=>fO) σ (jh σ)
 | k=>aB 1010 (.op 40004 (.ln Pair.D ([]:List Pair)) (.br 100000013 (.op 60004 (.el Pair.D ([]:List Pair) (.up k)) (.op 60014 (.el Pair.D ([]:List Pair) .dn) (.br 100000025 (.op 70004 (.sl Pair.D ([]:List Pair) 2 (fun _=>rfl) (.up k) (.up 0)) (.ps 1000001 [.k [0,3,4,5] []] (.lp1 0 (oL k 1) fun x0=>.op 140004 (.sl Pair.D ([]:List Pair) 2 (fun _=>rfl) (.up k) (.up 0)) .nil))) (.ps 1000003 [.k [0,3] []] (.ret (.inl (k+1))))))) (.ps 1000003 [.k [0] []] (.ret (.inr ()))))) (by kernel_rfl)
def kE (k:Nat):Option Unit:=aK (fun (σ:Nat)=>jh σ) FU k
theorem qY (k:Nat):∀y:Unit,kE k=some y→Runs Tryz.prog (.loop (nav [1,1,0,1,0,0] (ah Tryz.f91))) (fK k) ((.exit 0)) ((fun (y:Unit)=>fO) y):=
 aU (head:=fun (σ:Nat)=>fK σ) (eo:=fun (_:Unit)=>(.exit 0)) (so:=fun (y:Unit)=>fO) (qM) (fun _ h=>by cases h) FU k
def lK:Option (List Pair):=
 bif decide (((([]:List Pair).length:Nat):Int)<2) then
 some ([]:List Pair)
 else
 (kE 1).bind fun x0=>
 some ([]:List Pair)
theorem sH:∀r,lK=some r→aj Tryz.prog 91 0 [SL Pair.D ([]:List Pair)] [] (SL Pair.D r) []:=
 ak (enc:=fun r=>SL Pair.D r) (aP:=fun r=>[]) 10 (.op 10002 (.ln Pair.D ([]:List Pair)) (.br 100000008 (.ps 1000003 [.k [2] []] (.ret ([]:List Pair))) (.ps 1000001 [.k [0,3] []] (.lp1 0 (qY 1) fun x0=>.ps 1000003 [.k [2] []] (.ret ([]:List Pair)))))) Tryz.func91 (by kernel_rfl) (by kernel_rfl) (by kernel_rfl)
def Fz (t:Tape) (x4:List Pair) (i:Nat) (g:List Edge):St:=⟨48,0,[(2,.ptr 11 0 0),(4,.ptr 12 0 0),(26,SL Pair.D x4),(27,I ((x4.length:Nat):Int)),(28,I ((i:Nat):Int))],[(11,BOX [I 0,I 0,I 0,gq]),(12,BOX [I t.Ins,I ((t.Ops.length:Nat):Int),I ((t.aH.length:Nat):Int),bZ 100040 g,gq]),(100040,dG 5 Edge.D g)]⟩
def Fe (t:Tape) (x4:List Pair) (g:List Edge):St:=⟨48,0,[(2,.ptr 11 0 0),(4,.ptr 12 0 0)],[(11,BOX [I 0,I 0,I 0,gq]),(12,BOX [I t.Ins,I ((t.Ops.length:Nat):Int),I ((t.aH.length:Nat):Int),bZ 100040 g,gq]),(100040,dG 5 Edge.D g)]⟩
def sN (t:Tape) (x4:List Pair) (i:Nat) (g:List Edge):Option ((Nat×List Edge)⊕(List Edge)):=
 bif decide (((i:Nat):Int)<((x4.length:Nat):Int)) then
 bif decide (i<x4.length) then
 bif decide (g.length+1≤2147483648) then
 bif inK .i64 (((i:Nat):Int)+1) then
 some (.inl (i+1,g++[Edge.mk ((nth x4 i).From) ((nth x4 i).To) (Rat.mk false [] [1])]))
 else none
 else none
 else none
 else
 some (.inr g)
theorem Xq (t:Tape) (x4:List Pair):∀σ:Nat×List Edge,aJ Tryz.prog (nav [1,1,1,1,1,0,1,0,0] (ah Tryz.f36)) (fun (σ:Nat×List Edge)=>Fz t x4 σ.1 σ.2) (fun (_:List Edge)=>(.exit 0)) (fun (y:List Edge)=>Fe t x4 y) σ (sN t x4 σ.1 σ.2)
 | (i,[])=>aB 1010 (.br 100000029 (.op 80000 (.el Pair.D x4 (.up i)) (.op 90020 (.ap Edge.D [] [Edge.mk ((nth x4 i).From) ((nth x4 i).To) (Rat.mk false [] [1])] 5 fun _=>⟨rfl,rfl⟩) (.ps 1000003 [.k [2,4,26,27,28] [11,12,1013],.m 1013 100040] (.ret (.inl (i+1,[Edge.mk ((nth x4 i).From) ((nth x4 i).To) (Rat.mk false [] [1])])))))) (.ps 1000003 [.k [2,4] [11,12,100040]] (.ret (.inr [])))) (by kernel_rfl)
 | (i,g_h::g_t)=>aB 1010 (.br 100000029 (.op 80000 (.el Pair.D x4 (.up i)) (.op 90020 (.ap Edge.D (g_h::g_t) [Edge.mk ((nth x4 i).From) ((nth x4 i).To) (Rat.mk false [] [1])] 5 fun _=>⟨rfl,rfl⟩) (.ps 1000003 [.k [2,4,26,27,28] [11,12,1013],.m 1013 100040] (.ret (.inl (i+1,(g_h::g_t)++[Edge.mk ((nth x4 i).From) ((nth x4 i).To) (Rat.mk false [] [1])])))))) (.ps 1000003 [.k [2,4] [11,12,100040]] (.ret (.inr (g_h::g_t))))) (by kernel_rfl)
def Dw (t:Tape) (x4:List Pair) (i:Nat) (g:List Edge):Option (List Edge):=aK (fun (σ:Nat×List Edge)=>sN t x4 σ.1 σ.2) FU (i,g)
theorem MJ (t:Tape) (x4:List Pair) (i:Nat) (g:List Edge):∀y:List Edge,Dw t x4 i g=some y→Runs Tryz.prog (.loop (nav [1,1,1,1,1,0,1,0,0] (ah Tryz.f36))) (Fz t x4 i g) ((.exit 0)) ((fun (y:List Edge)=>Fe t x4 y) y):=
 aU (head:=fun (σ:Nat×List Edge)=>Fz t x4 σ.1 σ.2) (eo:=fun (_:List Edge)=>(.exit 0)) (so:=fun (y:List Edge)=>Fe t x4 y) (Xq t x4) (fun _ h=>by cases h) FU (i,g)
def dZ (k:Nat) (k1:Nat) (k2:Nat) (s:List Pair):St:=⟨61,1,[(0,.msl 0 0 none none),(3,I ((k1:Nat):Int)),(4,.msl 0 k none none),(5,I ((k2:Nat):Int))],[(0,ROW 2 Pair.D s 0)]⟩
def eH (k:Nat) (k1:Nat) (s:List Pair):St:=⟨61,1,[(0,.msl 0 0 none none),(3,I ((k1:Nat):Int))],[(0,ROW 2 Pair.D s 0)]⟩
def aY (k:Nat) (k1:Nat) (k2:Nat) (s:List Pair):Option ((Nat×Nat×List Pair)⊕(Nat×List Pair)):=
 bif decide (((k2:Nat):Int)<((lenOf k none s.length:Nat):Int)) then
 bif decide (k2<lenOf k none s.length) then
 bif decide (plus k k2<s.length) then
 bif inK .i64 (((k2:Nat):Int)-1) then
 bif decide (0≤((k2:Nat):Int)-1) then
 bif decide ((((k2:Nat):Int)-1).toNat<lenOf k none s.length) then
 bif decide (plus k ((((k2:Nat):Int)-1).toNat)<s.length) then
 bif !((((nth s (plus k k2)).From)==((nth s (plus k ((((k2:Nat):Int)-1).toNat))).From))&&((((nth s (plus k k2)).To)==((nth s (plus k ((((k2:Nat):Int)-1).toNat))).To))&&true)) then
 bif decide (k2<lenOf k none s.length) then
 bif decide (plus k k2<s.length) then
 bif decide (k1<s.length) then
 bif decide (k1<s.length) then
 bif inK .i64 (((k1:Nat):Int)+1) then
 bif inK .i64 (((k2:Nat):Int)+1) then
 some (.inl (k1+1,k2+1,s.set k1 (nth s (plus k k2))))
 else none
 else none
 else none
 else none
 else none
 else none
 else
 bif inK .i64 (((k2:Nat):Int)+1) then
 some (.inl (k1,k2+1,s))
 else none
 else none
 else none
 else none
 else none
 else none
 else none
 else
 some (.inr (k1,s))
theorem oN (k:Nat):∀σ:Nat×Nat×List Pair,aJ Tryz.prog (nav [1,1,0,1,0,0,1,0,0,1,0,1,0,1,0,0] (ah Tryz.f91)) (fun (σ:Nat×Nat×List Pair)=>dZ k σ.1 σ.2.1 σ.2.2) (fun (_:Nat×List Pair)=>(.exit 2)) (fun (y:Nat×List Pair)=>eH k y.1 y.2) σ (aY k σ.1 σ.2.1 σ.2.2)
 | (k1,k2,s)=>aB 2010 (.op 90004 (.ln Pair.D s) (.br 100000032 (.op 110004 (.el Pair.D s (.up k2)) (.op 110006 (.ld Pair.D s) (.op 110014 (.el Pair.D s .dn) (.op 110016 (.ld Pair.D s) (.br 100000044 (.op 120008 (.el Pair.D s (.up k2)) (.op 120010 (.ld Pair.D s) (.op 120012 (.el Pair.D s (.up k1)) (.op 120014 (.st Pair.D s (nth s (plus k k2))) (.ps 1000003 [.k [0,3,4,5] [0]] (.ret (.inl (k1+1,k2+1,s.set k1 (nth s (plus k k2)))))))))) (.ps 1000003 [.k [0,3,4,5] [0]] (.ret (.inl (k1,k2+1,s))))))))) (.ps 1000003 [.k [0,3] [0]] (.ret (.inr (k1,s)))))) (by kernel_rfl)
def dI (k:Nat) (k1:Nat) (k2:Nat) (s:List Pair):Option (Nat×List Pair):=aK (fun (σ:Nat×Nat×List Pair)=>aY k σ.1 σ.2.1 σ.2.2) FU (k1,k2,s)
theorem oP (k:Nat) (k1:Nat) (k2:Nat) (s:List Pair):∀y:Nat×List Pair,dI k k1 k2 s=some y→Runs Tryz.prog (.loop (nav [1,1,0,1,0,0,1,0,0,1,0,1,0,1,0,0] (ah Tryz.f91))) (dZ k k1 k2 s) ((.exit 2)) ((fun (y:Nat×List Pair)=>eH k y.1 y.2) y):=
 aU (head:=fun (σ:Nat×Nat×List Pair)=>dZ k σ.1 σ.2.1 σ.2.2) (eo:=fun (_:Nat×List Pair)=>(.exit 2)) (so:=fun (y:Nat×List Pair)=>eH k y.1 y.2) (oN k) (fun _ h=>by cases h) FU (k1,k2,s)
def eF (o0:List Pair) (k:Nat):St:=⟨61,1,[(0,.msl 0 0 none none),(3,I ((k:Nat):Int))],[(0,ROW 2 Pair.D o0 0)]⟩
def eG (o0:List Pair) (i:List Pair):St:=⟨61,1,[(2,SL Pair.D i)],[]⟩
def eP (o0:List Pair):St:=⟨61,1,[(0,.msl 0 0 none none)],[(0,ROW 2 Pair.D o0 0)]⟩
def aQ (o0:List Pair) (k:Nat):Option (Nat⊕((List Pair)⊕Unit)):=
 bif decide (((k:Nat):Int)<((o0.length:Nat):Int)) then
 bif decide (k<o0.length) then
 bif decide (k<o0.length) then
 bif inK .i64 (((k:Nat):Int)-1) then
 bif decide (0≤((k:Nat):Int)-1) then
 bif decide ((((k:Nat):Int)-1).toNat<o0.length) then
 bif decide ((((k:Nat):Int)-1).toNat<o0.length) then
 bif ((((nth o0 k).From)==((nth o0 ((((k:Nat):Int)-1).toNat)).From))&&((((nth o0 k).To)==((nth o0 ((((k:Nat):Int)-1).toNat)).To))&&true)) then
 bif decide (k≤(o0.map Pair.D).length) then
 bif decide (0+((o0.map Pair.D).length)≤(o0.map Pair.D).length) then
 bif decide ((o0.map Pair.D).length≤(o0.map Pair.D).length) then
 (dI k k 1 o0).bind fun x0=>
 bif decide (x0.1≤(x0.2.map Pair.D).length) then
 bif decide (0+((x0.2.map Pair.D).length)≤(x0.2.map Pair.D).length) then
 bif decide ((x0.2.map Pair.D).length≤(x0.2.map Pair.D).length) then
 bif decide (x0.1<x0.2.length) then
 bif decide (0≤x0.1) then
 bif decide (x0.1≤(x0.2.take x0.1++List.replicate (x0.2.length-x0.1) (Pair.mk 0 0)).length) then
 some (.inr (.inl ((x0.2.take x0.1++List.replicate (x0.2.length-x0.1) (Pair.mk 0 0)).take x0.1)))
 else none
 else none
 else none
 else none
 else none
 else none
 else none
 else none
 else none
 else
 bif inK .i64 (((k:Nat):Int)+1) then
 some (.inl (k+1))
 else none
 else none
 else none
 else none
 else none
 else none
 else none
 else
 some (.inr (.inr ()))
theorem oQ (o0:List Pair):∀σ:Nat,aJ Tryz.prog (nav [1,1,0,1,0,0] (ah Tryz.f91)) (fun (σ:Nat)=>eF o0 σ) (fun (y:(List Pair)⊕Unit)=>aN y (fun _=>.ret) (fun _=>(.exit 0))) (fun (y:(List Pair)⊕Unit)=>aN y (fun y=>eG o0 y) (fun y=>eP o0)) σ (aQ o0 σ)
 | k=>aB 1010 (.op 40004 (.ln Pair.D o0) (.br 100000013 (.op 60004 (.el Pair.D o0 (.up k)) (.op 60006 (.ld Pair.D o0) (.op 60014 (.el Pair.D o0 .dn) (.op 60016 (.ld Pair.D o0) (.br 100000025 (.op 70004 (.sb (.up k) (.up 0) (.up 0)) (.ps 1000001 [.k [0,3,4,5] [0]] (.lp1 0 (oP k k 1 o0) fun x0=>.op 140004 (.sb (.up x0.1) (.up 0) (.up 0)) (.op 140006 (.st Pair.D x0.2 (Pair.mk 0 0)) (.ps 28 [.z 0,.k [0,3] []] (.op 150004 (.sl Pair.D (x0.2.take x0.1++List.replicate (x0.2.length-x0.1) (Pair.mk 0 0)) 2 (fun _=>rfl) (.up 0) (.up x0.1)) (.ps 1000003 [.k [2] []] (.ret (.inr (.inl ((x0.2.take x0.1++List.replicate (x0.2.length-x0.1) (Pair.mk 0 0)).take x0.1))))))))))) (.ps 1000003 [.k [0,3] [0]] (.ret (.inl (k+1))))))))) (.ps 1000003 [.k [0] [0]] (.ret (.inr (.inr ())))))) (by kernel_rfl)
def bC (o0:List Pair) (k:Nat):Option ((List Pair)⊕Unit):=aK (fun (σ:Nat)=>aQ o0 σ) FU k
theorem oK (o0:List Pair) (k:Nat):∀y:(List Pair)⊕Unit,bC o0 k=some y→Runs Tryz.prog (.loop (nav [1,1,0,1,0,0] (ah Tryz.f91))) (eF o0 k) (aN y (fun _=>.ret) (fun _=>(.exit 0))) ((fun (y:(List Pair)⊕Unit)=>aN y (fun y=>eG o0 y) (fun y=>eP o0)) y):=
 aU (head:=fun (σ:Nat)=>eF o0 σ) (eo:=fun (y:(List Pair)⊕Unit)=>aN y (fun _=>.ret) (fun _=>(.exit 0))) (so:=fun (y:(List Pair)⊕Unit)=>aN y (fun y=>eG o0 y) (fun y=>eP o0)) (oQ o0) (fun y h=>by rcases y with y | y<;>cases h) FU k
def aZ (o0:List Pair):Option (List Pair):=
 bif decide (((o0.length:Nat):Int)<2) then
 some o0
 else
 (bC o0 1).bind fun y_=>aN y_ (fun x0=>
 some x0)
 (fun x1=>
 some o0)
theorem qO (o0:List Pair):∀r,aZ o0=some r→aj Tryz.prog 91 1 [.msl 0 0 none none] [(0,ROW 2 Pair.D o0 0)] (SL Pair.D r) []:=
 ak (enc:=fun r=>SL Pair.D r) (aP:=fun r=>[]) 10 (.op 10002 (.ln Pair.D o0) (.br 100000008 (.ps 1000003 [.z 2] (.ps 1000003 [.k [2] []] (.ret o0))) (.ps 1000001 [.k [0,3] [0]] (.lp2 0 (oK o0 1) (fun x0=>.ps 1000003 [.k [2] []] (.ret x0)) (fun x1=>.ps 1000003 [.z 2] (.ps 1000003 [.k [2] []] (.ret o0))))))) Tryz.func91 (by kernel_rfl) (by kernel_rfl) (by kernel_rfl)
def PZ (t:Tape):Option (Shape×Int):=
 (xQ t).bind fun x0=>
 bif !x0 then
 some (Shape.mk 0 0 0 [],1)
 else
 (yK t).bind fun y_=>aN y_ (fun x1=>
 (Vw).bind fun x3=>
 (lK).bind fun x4=>
 (Dw t x4 0 []).bind fun x5=>
 (iW (Graph.mk t.Ins ((t.Ops.length:Nat):Int) ((t.aH.length:Nat):Int) x5 [])).bind fun x6=>
 (wW x6).bind fun x7=>
 some (x7,0))
 (fun x2=>
 (LM x2).bind fun x3=>
 (aZ x3).bind fun x4=>
 (Dw t x4 0 []).bind fun x5=>
 (iW (Graph.mk t.Ins ((t.Ops.length:Nat):Int) ((t.aH.length:Nat):Int) x5 [])).bind fun x6=>
 (wW x6).bind fun x7=>
 some (x7,0))
theorem aay (t:Tape):∀r,PZ t=some r→aj Tryz.prog 36 0 [AG Tape.D t] [] (.tup [AG Shape.D r.1,I r.2]) []:=
 ak (enc:=fun r=>.tup [AG Shape.D r.1,I r.2]) (aP:=fun r=>[]) 10 (.call [] [] (MS t) .no fun x0=>.br 100000010 (.ps 1000003 [.b 11] (.ret (Shape.mk 0 0 0 [],1))) (.op 30008 (.ln TOp.D t.Ops) (.op 30014 (.ln (cI .i64) t.aH) (.aa8 [] [100039] (Rj t) .no (fun x1=>.call [] [] (Md) .no fun x3=>.call [] [] (sH) .no fun x4=>.op 60004 (.ln Pair.D x4) (.ps 1000001 [.k [2,4,26,27,28] [11,12,100040]] (.lp1 0 (MJ t x4 0 []) fun x5=>.ob 1 12 3 100040 5 Edge.D x5 (.ps 1 [.k [2,4] [11,12]] (.call [] [] (ng (Graph.mk t.Ins ((t.Ops.length:Nat):Int) ((t.aH.length:Nat):Int) x5 [])) .no fun x6=>.call [] [] (FP x6) .no fun x7=>.ret (x7,0)))))) (fun x2=>.call [100039] [] (V8 x2) .no fun x3=>.call [100039] [] (qO x3) .no fun x4=>.op 60004 (.ln Pair.D x4) (.ps 1000001 [.k [2,4,26,27,28] [11,12,100040]] (.lp1 0 (MJ t x4 0 []) fun x5=>.ob 1 12 3 100040 5 Edge.D x5 (.ps 1 [.k [2,4] [11,12]] (.call [] [] (ng (Graph.mk t.Ins ((t.Ops.length:Nat):Int) ((t.aH.length:Nat):Int) x5 [])) .no fun x6=>.call [] [] (FP x6) .no fun x7=>.ret (x7,0)))))))))) Tryz.func36 (by kernel_rfl) (by kernel_rfl) (by kernel_rfl)
def Kz:Option Bool:=
 (Nj (Shape.mk 1 1 2 [Pair.mk 0 1,Pair.mk 1 2,Pair.mk 1 3]) 1).bind fun x0=>
 (Yb (Shape.mk 1 1 2 [Pair.mk 0 1,Pair.mk 1 2,Pair.mk 1 3]) [1]).bind fun x1=>
 bif x0.2.2==0 then
 bif x0.2.1==2 then
 (CS x0.1 (Shape.mk 1 1 2 [Pair.mk 0 2,Pair.mk 0 3])).bind fun x2=>
 bif x2 then
 (Vm (Shape.mk 1 1 2 [Pair.mk 0 1,Pair.mk 1 2,Pair.mk 1 3]) 1).bind fun x3=>
 bif x3==2 then
 (UO (Shape.mk 1 1 2 [Pair.mk 0 1,Pair.mk 1 2,Pair.mk 1 3]) 1).bind fun x4=>
 bif x4==2 then
 bif x1.2==0 then
 bif x1.1==2 then
 (je (Shape.mk 1 1 2 [Pair.mk 0 1,Pair.mk 1 2,Pair.mk 1 3])).bind fun x5=>
 some x5
 else
 some false
 else
 some false
 else
 some false
 else
 some false
 else
 some false
 else
 some false
 else
 some false
theorem UK:∀r,Kz=some r→aj Tryz.prog 33 0 [] [] (B r) []:=
 ak (enc:=fun r=>B r) (aP:=fun r=>[]) 10 (.call [] [] (MV (Shape.mk 1 1 2 [Pair.mk 0 1,Pair.mk 1 2,Pair.mk 1 3]) 1) .no fun x0=>.call [] [] (Zk (Shape.mk 1 1 2 [Pair.mk 0 1,Pair.mk 1 2,Pair.mk 1 3]) [1]) (.yes fun _=>⟨rfl,trivial⟩) fun x1=>.br 50006 (.br 50014 (.call [] [] (MF x0.1 (Shape.mk 1 1 2 [Pair.mk 0 2,Pair.mk 0 3])) (.yes fun _=>⟨rfl,trivial⟩) fun x2=>.br 50024 (.call [] [] (Xk (Shape.mk 1 1 2 [Pair.mk 0 1,Pair.mk 1 2,Pair.mk 1 3]) 1) (.yes fun _=>⟨rfl,trivial⟩) fun x3=>.br 50034 (.call [] [] (WW (Shape.mk 1 1 2 [Pair.mk 0 1,Pair.mk 1 2,Pair.mk 1 3]) 1) (.yes fun _=>⟨rfl,trivial⟩) fun x4=>.br 50044 (.br 50052 (.br 50060 (.call [] [] (jV (Shape.mk 1 1 2 [Pair.mk 0 1,Pair.mk 1 2,Pair.mk 1 3])) (.yes fun _=>⟨rfl,trivial⟩) fun x5=>.ret x5) (.ret false)) (.ret false)) (.ret false)) (.ret false)) (.ret false)) (.ret false)) (.ret false)) Tryz.func33 (by kernel_rfl) (by kernel_rfl) (by kernel_rfl)
end Go.Ab.M
