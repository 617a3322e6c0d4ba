/- Part 6 of shardStays_holds. -/
import Derived.ProofKit
import Derived.Deep.Slices
import Derived.OpenShut
import Derived.Carry
import Derived.Laws.Small
import Derived.Test.YtalfaopffbkdnaaGreatRows
import Derived.Test.YtalfaopffbkdnaaGreatSen5

set_option maxRecDepth 20000
set_option maxHeartbeats 1000000
namespace Go
theorem ACu:∀{x y:Bool},(x&&y)=false↔x=false∨y=false:=@Bool.and_eq_false_iff
theorem ABJ:Go.Program.underlying Go.Proofs.Tryz.prog 136=some (Go.TypeDesc.int Go.IntKind.u64):=@Go.Proofs.Tryz.underlying136
theorem ABH:Go.Program.underlying Go.Proofs.Tryz.prog 22=some (Go.TypeDesc.slice 73):=@Go.Proofs.Tryz.underlying22
theorem ACh:Go.Program.underlying Go.Proofs.Tryz.prog 23=some (Go.TypeDesc.slice 54):=@Go.Proofs.Tryz.underlying23
theorem AB4:Go.Program.underlying Go.Proofs.Tryz.prog 24=some (Go.TypeDesc.slice 50):=@Go.Proofs.Tryz.underlying24
theorem ACa:Go.Program.underlying Go.Proofs.Tryz.prog 25=some (Go.TypeDesc.slice 52):=@Go.Proofs.Tryz.underlying25
theorem ACi:Go.Program.underlying Go.Proofs.Tryz.prog 26=some (Go.TypeDesc.slice 125):=@Go.Proofs.Tryz.underlying26
theorem ABT:Go.Program.underlying Go.Proofs.Tryz.prog 29=some (Go.TypeDesc.slice 5):=@Go.Proofs.Tryz.underlying29
theorem ABc:Go.Program.underlying Go.Proofs.Tryz.prog 3=some (Go.TypeDesc.int Go.IntKind.i64):=@Go.Proofs.Tryz.underlying3
theorem AB5:Go.Program.underlying Go.Proofs.Tryz.prog 69=some (Go.TypeDesc.slice 83):=@Go.Proofs.Tryz.underlying69
theorem ABO:Go.Program.underlying Go.Proofs.Tryz.prog 9=some Go.TypeDesc.string:=@Go.Proofs.Tryz.underlying9
theorem ABn:∀{α:Type _} {a:α} {l:List α} {f:α→Bool},List.all (a::l) f=(f a&&List.all l f):=@List.all_cons
theorem ABV:∀{α:Type _} {a:α} {l:List α},(a::l)[0]? =some a:=@List.getElem?_cons_zero
theorem ABh:∀{α:Type _} {a:α},¬a∈[]:=@List.not_mem_nil
end Go
open Go.Proofs.Tryz renaming underlying125→ADB,underlying28→AC4,underlying31→ACb,underlying33→ACR,underlying35→ACE,underlying44→AC5,underlying50→ADa,underlying52→AC0,underlying54→ADk,underlying68→ADC,underlying71→ADl,underlying73→ADg,underlying83→ADm
open List renaming append_nil→AB7,find?_range_eq_some→ADz,map_inj_left→ADS,mem_append_left→AC9,mem_filter→ABZ
open List.cons renaming injEq→ACj
open Nat renaming eq_of_beq_eq_true→ACI
open Option.some renaming injEq→ABX
open Prod.mk renaming injEq→ACg
open Go.A_ Go.Apw Go.Proofs Go.Proofs.YtalfaopffbkdnaaGreat
namespace Go.Apw
structure Fs where
 Ev:Int
 Hi:Int
 IX:Int
 A6:ByteArray
 Bc:ByteArray
 Ap:Int
 As:Int
 deriving DecidableEq,Inhabited
@[reducible] def ED(x:Fs):List Value:=[.int .i64 x.Ev,.int .i64 x.Hi,.int .i64 x.IX,.string x.A6,.string x.Bc,.int .i64 x.Ap,.int .i64 x.As]
def Fs.wf(x:Fs):Prop:=A' x.Ev/\A' x.Hi/\A' x.IX/\x.A6.size<=9223372036854775807/\x.Bc.size<=9223372036854775807/\A' x.Ap/\A' x.As
@[reducible] def Ai2:Shape Fs where
 H:=Unit
 size:=7
 cells x h:=ED x
 sub x h:=[]
 wf:=Fs.wf
 len _ _:=rfl
 one:=by
  intro S w x h Av u hu;simp only[ED,ABf,ABh,ABi]at hu;rcases hu with rfl|rfl|rfl|rfl|rfl|rfl|rfl<;>first|rfl
@[reducible] instance Ru:Be Fs:=Be.D5 Ai2
theorem sa{x:Fs}:AuF Ru E_ 0 1 x x.Ev:=by
 rintro S w cs ⟨h,rfl,hs,hw⟩;exact⟨rfl,hw.1⟩
theorem AgK{x:Fs}:AuF Ru E_ 1 1 x x.Hi:=by
 rintro S w cs ⟨h,rfl,hs,hw⟩;exact⟨rfl,hw.2.1⟩
theorem AgL{x:Fs}:AuF Ru E_ 2 1 x x.IX:=by
 rintro S w cs ⟨h,rfl,hs,hw⟩;exact⟨rfl,hw.2.2.1⟩
theorem AgM{x:Fs}:AuF Ru Nl 3 1 x x.A6:=by
 rintro S w cs ⟨h,rfl,hs,hw⟩;exact⟨rfl,hw.2.2.2.1⟩
theorem AgN{x:Fs}:AuF Ru Nl 4 1 x x.Bc:=by
 rintro S w cs ⟨h,rfl,hs,hw⟩;exact⟨rfl,hw.2.2.2.2.1⟩
theorem AgO{x:Fs}:AuF Ru E_ 5 1 x x.Ap:=by
 rintro S w cs ⟨h,rfl,hs,hw⟩;exact⟨rfl,hw.2.2.2.2.2.1⟩
theorem AgP{x:Fs}:AuF Ru E_ 6 1 x x.As:=by
 rintro S w cs ⟨h,rfl,hs,hw⟩;exact⟨rfl,hw.2.2.2.2.2.2⟩
structure FL where
 Ca:Int
 Al:ByteArray
 EL:ByteArray
 B2:Int
 A6:Int
 Bc:Int
 deriving DecidableEq,Inhabited
@[reducible] def MZ(x:FL):List Value:=[.int .i64 x.Ca,.string x.Al,.string x.EL,.int .i64 x.B2,.int .i64 x.A6,.int .i64 x.Bc]
def FL.wf(x:FL):Prop:=A' x.Ca/\x.Al.size<=9223372036854775807/\x.EL.size<=9223372036854775807/\A' x.B2/\A' x.A6/\A' x.Bc
@[reducible] def Ai1:Shape FL where
 H:=Unit
 size:=6
 cells x h:=MZ x
 sub x h:=[]
 wf:=FL.wf
 len _ _:=rfl
 one:=by
  intro S w x h Av u hu;simp only[MZ,ABf,ABh,ABi]at hu;rcases hu with rfl|rfl|rfl|rfl|rfl|rfl<;>first|rfl
@[reducible] instance Ve:Be FL:=Be.D5 Ai1
theorem AgE{x:FL}:AuF Ve E_ 0 1 x x.Ca:=by
 rintro S w cs ⟨h,rfl,hs,hw⟩;exact⟨rfl,hw.1⟩
theorem AgF{x:FL}:AuF Ve Nl 1 1 x x.Al:=by
 rintro S w cs ⟨h,rfl,hs,hw⟩;exact⟨rfl,hw.2.1⟩
theorem AgG{x:FL}:AuF Ve Nl 2 1 x x.EL:=by
 rintro S w cs ⟨h,rfl,hs,hw⟩;exact⟨rfl,hw.2.2.1⟩
theorem AgH{x:FL}:AuF Ve E_ 3 1 x x.B2:=by
 rintro S w cs ⟨h,rfl,hs,hw⟩;exact⟨rfl,hw.2.2.2.1⟩
theorem AgI{x:FL}:AuF Ve E_ 4 1 x x.A6:=by
 rintro S w cs ⟨h,rfl,hs,hw⟩;exact⟨rfl,hw.2.2.2.2.1⟩
theorem AgJ{x:FL}:AuF Ve E_ 5 1 x x.Bc:=by
 rintro S w cs ⟨h,rfl,hs,hw⟩;exact⟨rfl,hw.2.2.2.2.2⟩
structure GC where
 A6:Int
 Bc:Int
 deriving DecidableEq,Inhabited
@[reducible] def Od(x:GC):List Value:=[.int .i64 x.A6,.int .i64 x.Bc]
def GC.wf(x:GC):Prop:=A' x.A6/\A' x.Bc
@[reducible] def Ai3:Shape GC where
 H:=Unit
 size:=2
 cells x h:=Od x
 sub x h:=[]
 wf:=GC.wf
 len _ _:=rfl
 one:=by
  intro S w x h Av u hu;simp only[Od,ABf,ABh,ABi]at hu;rcases hu with rfl|rfl<;>first|rfl
@[reducible] instance k0:Be GC:=Be.D5 Ai3
theorem Ag'{x:GC}:AuF k0 E_ 0 1 x x.A6:=by
 rintro S w cs ⟨h,rfl,hs,hw⟩;exact⟨rfl,hw.1⟩
theorem Aha{x:GC}:AuF k0 E_ 1 1 x x.Bc:=by
 rintro S w cs ⟨h,rfl,hs,hw⟩;exact⟨rfl,hw.2⟩
structure F_ where
 Ap:Int
 As:Int
 DH:Int
 B2:Int
 deriving DecidableEq,Inhabited
@[reducible] def Lx(x:F_):List Value:=[.int .i64 x.Ap,.int .i64 x.As,.int .i64 x.DH,.int .i64 x.B2]
def F_.wf(x:F_):Prop:=A' x.Ap/\A' x.As/\A' x.DH/\A' x.B2
@[reducible] def Ai0:Shape F_ where
 H:=Unit
 size:=4
 cells x h:=Lx x
 sub x h:=[]
 wf:=F_.wf
 len _ _:=rfl
 one:=by
  intro S w x h Av u hu;simp only[Lx,ABf,ABh,ABi]at hu;rcases hu with rfl|rfl|rfl|rfl<;>first|rfl
@[reducible] instance ck:Be F_:=Be.D5 Ai0
theorem Agx{x:F_}:AuF ck E_ 0 1 x x.Ap:=by
 rintro S w cs ⟨h,rfl,hs,hw⟩;exact⟨rfl,hw.1⟩
theorem Agy{x:F_}:AuF ck E_ 1 1 x x.As:=by
 rintro S w cs ⟨h,rfl,hs,hw⟩;exact⟨rfl,hw.2.1⟩
theorem Agz{x:F_}:AuF ck E_ 2 1 x x.DH:=by
 rintro S w cs ⟨h,rfl,hs,hw⟩;exact⟨rfl,hw.2.2.1⟩
theorem AgA{x:F_}:AuF ck E_ 3 1 x x.B2:=by
 rintro S w cs ⟨h,rfl,hs,hw⟩;exact⟨rfl,hw.2.2.2⟩
structure BD where
 Bn:Int
 G0:Int
 DV:Int
 Fc:Int
 deriving DecidableEq,Inhabited
@[reducible] def JH(x:BD):List Value:=[.int .i64 x.Bn,.int .i64 x.G0,.int .i64 x.DV,.int .i64 x.Fc]
def BD.wf(x:BD):Prop:=A' x.Bn/\A' x.G0/\A' x.DV/\A' x.Fc
@[reducible] def MN:Shape BD where
 H:=Unit
 size:=4
 cells x h:=JH x
 sub x h:=[]
 wf:=BD.wf
 len _ _:=rfl
 one:=by
  intro S w x h Av u hu;simp only[JH,ABf,ABh,ABi]at hu;rcases hu with rfl|rfl|rfl|rfl<;>first|rfl
@[reducible] instance Mj:Be BD:=Be.D5 MN
theorem Agt{x:BD}:AuF Mj E_ 0 1 x x.Bn:=by
 rintro S w cs ⟨h,rfl,hs,hw⟩;exact⟨rfl,hw.1⟩
theorem Agu{x:BD}:AuF Mj E_ 1 1 x x.G0:=by
 rintro S w cs ⟨h,rfl,hs,hw⟩;exact⟨rfl,hw.2.1⟩
theorem Agv{x:BD}:AuF Mj E_ 2 1 x x.DV:=by
 rintro S w cs ⟨h,rfl,hs,hw⟩;exact⟨rfl,hw.2.2.1⟩
theorem Agw{x:BD}:AuF Mj E_ 3 1 x x.Fc:=by
 rintro S w cs ⟨h,rfl,hs,hw⟩;exact⟨rfl,hw.2.2.2⟩
structure De where
 Jd:Int
 JM:Int
 JJ:Int
 JK:Int
 deriving DecidableEq,Inhabited
@[reducible] def GM(x:De):List Value:=[.int .i64 x.Jd,.int .i64 x.JM,.int .i64 x.JJ,.int .i64 x.JK]
def De.wf(x:De):Prop:=A' x.Jd/\A' x.JM/\A' x.JJ/\A' x.JK
@[reducible] def AiX:Shape De where
 H:=Unit
 size:=4
 cells x h:=GM x
 sub x h:=[]
 wf:=De.wf
 len _ _:=rfl
 one:=by
  intro S w x h Av u hu;simp only[GM,ABf,ABh,ABi]at hu;rcases hu with rfl|rfl|rfl|rfl<;>first|rfl
@[reducible] instance ch:Be De:=Be.D5 AiX
theorem Agf{x:De}:AuF ch E_ 0 1 x x.Jd:=by
 rintro S w cs ⟨h,rfl,hs,hw⟩;exact⟨rfl,hw.1⟩
theorem Agg{x:De}:AuF ch E_ 1 1 x x.JM:=by
 rintro S w cs ⟨h,rfl,hs,hw⟩;exact⟨rfl,hw.2.1⟩
theorem Agh{x:De}:AuF ch E_ 2 1 x x.JJ:=by
 rintro S w cs ⟨h,rfl,hs,hw⟩;exact⟨rfl,hw.2.2.1⟩
theorem Agi{x:De}:AuF ch E_ 3 1 x x.JK:=by
 rintro S w cs ⟨h,rfl,hs,hw⟩;exact⟨rfl,hw.2.2.2⟩
structure Df where
 Ap:Int
 As:Int
 deriving DecidableEq,Inhabited
@[reducible] def QT(x:Df):List Value:=[.int .i64 x.Ap,.int .i64 x.As]
def Df.wf(x:Df):Prop:=A' x.Ap/\A' x.As
@[reducible] def Ze:Shape Df where
 H:=Unit
 size:=2
 cells x h:=QT x
 sub x h:=[]
 wf:=Df.wf
 len _ _:=rfl
 one:=by
  intro S w x h Av u hu;simp only[QT,ABf,ABh,ABi]at hu;rcases hu with rfl|rfl<;>first|rfl
@[reducible] instance Y9:Be Df:=Be.D5 Ze
theorem Ags{x:Df}:AuF Y9 E_ 0 1 x x.Ap:=by
 rintro S w cs ⟨h,rfl,hs,hw⟩;exact⟨rfl,hw.1⟩
theorem r'{x:Df}:AuF Y9 E_ 1 1 x x.As:=by
 rintro S w cs ⟨h,rfl,hs,hw⟩;exact⟨rfl,hw.2⟩
structure BL where
 Ap:Int
 As:Int
 HV:Bool
 Cm:De
 deriving DecidableEq,Inhabited
@[reducible] def H9(x:BL):List Value:=[.int .i64 x.Ap,.int .i64 x.As,.bool x.HV,.int .i64 x.Cm.Jd,.int .i64 x.Cm.JM,.int .i64 x.Cm.JJ,.int .i64 x.Cm.JK]
def BL.wf(x:BL):Prop:=A' x.Ap/\A' x.As/\True/\x.Cm.wf
@[reducible] def cy:Shape BL where
 H:=Unit
 size:=7
 cells x h:=H9 x
 sub x h:=[]
 wf:=BL.wf
 len _ _:=rfl
 one:=by
  intro S w x h Av u hu;simp only[H9,ABf,ABh,ABi]at hu;rcases hu with rfl|rfl|rfl|rfl|rfl|rfl|rfl<;>first|rfl
@[reducible] instance W8:Be BL:=Be.D5 cy
theorem AgB{x:BL}:AuF W8 E_ 0 1 x x.Ap:=by
 rintro S w cs ⟨h,rfl,hs,hw⟩;exact⟨rfl,hw.1⟩
theorem AgC{x:BL}:AuF W8 E_ 1 1 x x.As:=by
 rintro S w cs ⟨h,rfl,hs,hw⟩;exact⟨rfl,hw.2.1⟩
theorem AgD{x:BL}:AuF W8 cr 2 1 x x.HV:=by
 rintro S w cs ⟨h,rfl,hs,hw⟩;exact⟨rfl,trivial⟩
theorem fw{x:BL}:AuF W8 ch 3 4 x x.Cm:=by
 rintro S w cs ⟨h,rfl,hs,hw⟩;exact⟨(),rfl,by simp,hw.2.2.2⟩
structure Bx where
 Ap:Int
 As:Int
 Al:ByteArray
 EL:ByteArray
 B2:Int
 DN:Int
 DO:Int
 C3:Int
 deriving DecidableEq,Inhabited
@[reducible] def H8(x:Bx):List Value:=[.int .i64 x.Ap,.int .i64 x.As,.string x.Al,.string x.EL,.int .i64 x.B2,.int .i64 x.DN,.int .i64 x.DO,.int .i64 x.C3]
def Bx.wf(x:Bx):Prop:=A' x.Ap/\A' x.As/\x.Al.size<=9223372036854775807/\x.EL.size<=9223372036854775807/\A' x.B2/\A' x.DN/\A' x.DO/\A' x.C3
@[reducible] def Kx:Shape Bx where
 H:=Unit
 size:=8
 cells x h:=H8 x
 sub x h:=[]
 wf:=Bx.wf
 len _ _:=rfl
 one:=by
  intro S w x h Av u hu;simp only[H8,ABf,ABh,ABi]at hu;rcases hu with rfl|rfl|rfl|rfl|rfl|rfl|rfl|rfl<;>first|rfl
@[reducible] instance ML:Be Bx:=Be.D5 Kx
theorem Agl{x:Bx}:AuF ML E_ 0 1 x x.Ap:=by
 rintro S w cs ⟨h,rfl,hs,hw⟩;exact⟨rfl,hw.1⟩
theorem Agm{x:Bx}:AuF ML E_ 1 1 x x.As:=by
 rintro S w cs ⟨h,rfl,hs,hw⟩;exact⟨rfl,hw.2.1⟩
theorem Agn{x:Bx}:AuF ML Nl 2 1 x x.Al:=by
 rintro S w cs ⟨h,rfl,hs,hw⟩;exact⟨rfl,hw.2.2.1⟩
theorem Ago{x:Bx}:AuF ML Nl 3 1 x x.EL:=by
 rintro S w cs ⟨h,rfl,hs,hw⟩;exact⟨rfl,hw.2.2.2.1⟩
theorem Agp{x:Bx}:AuF ML E_ 4 1 x x.B2:=by
 rintro S w cs ⟨h,rfl,hs,hw⟩;exact⟨rfl,hw.2.2.2.2.1⟩
theorem Agq{x:Bx}:AuF ML E_ 5 1 x x.DN:=by
 rintro S w cs ⟨h,rfl,hs,hw⟩;exact⟨rfl,hw.2.2.2.2.2.1⟩
theorem Agr{x:Bx}:AuF ML E_ 6 1 x x.DO:=by
 rintro S w cs ⟨h,rfl,hs,hw⟩;exact⟨rfl,hw.2.2.2.2.2.2.1⟩
theorem r_{x:Bx}:AuF ML E_ 7 1 x x.C3:=by
 rintro S w cs ⟨h,rfl,hs,hw⟩;exact⟨rfl,hw.2.2.2.2.2.2.2⟩
structure BX where
 Ca:Int
 Ap:Int
 As:Int
 Bn:Int
 DH:Int
 AM:FL
 deriving DecidableEq,Inhabited
@[reducible] def Hh(x:BX):List Value:=[.int .i64 x.Ca,.int .i64 x.Ap,.int .i64 x.As,.int .i64 x.Bn,.int .i64 x.DH,.int .i64 x.AM.Ca,.string x.AM.Al,.string x.AM.EL,.int .i64 x.AM.B2,.int .i64 x.AM.A6,.int .i64 x.AM.Bc]
def BX.wf(x:BX):Prop:=A' x.Ca/\A' x.Ap/\A' x.As/\A' x.Bn/\A' x.DH/\x.AM.wf
@[reducible] def Zf:Shape BX where
 H:=Unit
 size:=11
 cells x h:=Hh x
 sub x h:=[]
 wf:=BX.wf
 len _ _:=rfl
 one:=by
  intro S w x h Av u hu;simp only[Hh,ABf,ABh,ABi]at hu;rcases hu with rfl|rfl|rfl|rfl|rfl|rfl|rfl|rfl|rfl|rfl|rfl<;>first|rfl
@[reducible] instance Ha:Be BX:=Be.D5 Zf
theorem Ahb{x:BX}:AuF Ha E_ 0 1 x x.Ca:=by
 rintro S w cs ⟨h,rfl,hs,hw⟩;exact⟨rfl,hw.1⟩
theorem Ahc{x:BX}:AuF Ha E_ 1 1 x x.Ap:=by
 rintro S w cs ⟨h,rfl,hs,hw⟩;exact⟨rfl,hw.2.1⟩
theorem Ahd{x:BX}:AuF Ha E_ 2 1 x x.As:=by
 rintro S w cs ⟨h,rfl,hs,hw⟩;exact⟨rfl,hw.2.2.1⟩
theorem Ahe{x:BX}:AuF Ha E_ 3 1 x x.Bn:=by
 rintro S w cs ⟨h,rfl,hs,hw⟩;exact⟨rfl,hw.2.2.2.1⟩
theorem Ahf{x:BX}:AuF Ha E_ 4 1 x x.DH:=by
 rintro S w cs ⟨h,rfl,hs,hw⟩;exact⟨rfl,hw.2.2.2.2.1⟩
theorem Ahg{x:BX}:AuF Ha Ve 5 6 x x.AM:=by
 rintro S w cs ⟨h,rfl,hs,hw⟩;exact⟨(),rfl,by simp,hw.2.2.2.2.2⟩
structure ZR where
 CZ:Int
 Hi:ByteArray
 Dn:Int
 deriving DecidableEq,Inhabited
structure QM where
 CZ:Int
 Al:ByteArray
 G0:Int
 It:Int
 deriving DecidableEq,Inhabited
structure AD where
 Al:ByteArray
 Cs:GC
 BT:Int
 Cn:Int
 A0:List BD
 BG:F_
 deriving DecidableEq,Inhabited
@[reducible] def A3(x:AD)(AS:Value):List Value:=[.string x.Al,.int .i64 x.Cs.A6,.int .i64 x.Cs.Bc,.int .i64 x.BT,.int .i64 x.Cn,AS,.int .i64 x.BG.Ap,.int .i64 x.BG.As,.int .i64 x.BG.DH,.int .i64 x.BG.B2]
def AD.wf(x:AD):Prop:=x.Al.size<=9223372036854775807/\x.Cs.wf/\A' x.BT/\A' x.Cn/\True/\x.BG.wf
@[reducible] def Nn:Shape AD where
 H:=Value
 size:=10
 cells x h:=A3 x h
 sub x h:=[⟨h,x.A0⟩]
 wf:=AD.wf
 len _ _:=rfl
 one:=by
  intro S w x h Av u hu;have JZ:=Fh (Av _ (ABx ..));simp only[A3,ABf,ABh,ABi]at hu;rcases hu with rfl|rfl|rfl|rfl|rfl|rfl|rfl|rfl|rfl|rfl<;>first|rfl|exact JZ
@[reducible] instance GR:Be AD:=Be.D5 Nn
theorem kM{x:AD}:AuF GR Nl 0 1 x x.Al:=by
 rintro S w cs ⟨h,rfl,hs,hw⟩;exact⟨rfl,hw.1⟩
theorem r9{x:AD}:AuF GR k0 1 2 x x.Cs:=by
 rintro S w cs ⟨h,rfl,hs,hw⟩;exact⟨(),rfl,by simp,hw.2.1⟩
theorem Agc{x:AD}:AuF GR E_ 3 1 x x.BT:=by
 rintro S w cs ⟨h,rfl,hs,hw⟩;exact⟨rfl,hw.2.2.1⟩
theorem Agd{x:AD}:AuF GR E_ 4 1 x x.Cn:=by
 rintro S w cs ⟨h,rfl,hs,hw⟩;exact⟨rfl,hw.2.2.2.1⟩
theorem Age{x:AD}:AuF GR (@FI BD Mj) 5 1 x x.A0:=by
 rintro S w cs ⟨h,rfl,hs,hw⟩;exact j4 (hs _ (ABx ..))
theorem fv{x:AD}:AuF GR ck 6 4 x x.BG:=by
 rintro S w cs ⟨h,rfl,hs,hw⟩;exact⟨(),rfl,by simp,hw.2.2.2.2.2⟩
structure Bv where
 CZ:Int
 DX:Int
 Du:Bool
 A6:ByteArray
 Bc:ByteArray
 Dn:Int
 Aj:List AD
 Bz:List BL
 AA:List BX
 Bj:List Bx
 CX:List Df
 Bt:Fs
 CW:Fs
 Cf:List UInt8
 Jc:Int
 JL:Int
 GW:Int
 deriving DecidableEq,Inhabited
@[reducible] def BY(x:Bv)(AS A1 AY A9 Ba Bd:Value):List Value:=[.int .i64 x.CZ,.int .i64 x.DX,.bool x.Du,.string x.A6,.string x.Bc,.int .i64 x.Dn,AS,A1,AY,A9,Ba,.int .i64 x.Bt.Ev,.int .i64 x.Bt.Hi,.int .i64 x.Bt.IX,.string x.Bt.A6,.string x.Bt.Bc,.int .i64 x.Bt.Ap,.int .i64 x.Bt.As,.int .i64 x.CW.Ev,.int .i64 x.CW.Hi,.int .i64 x.CW.IX,.string x.CW.A6,.string x.CW.Bc,.int .i64 x.CW.Ap,.int .i64 x.CW.As,Bd,.int .i64 x.Jc,.int .i64 x.JL,.int .i64 x.GW]
def Bv.wf(x:Bv):Prop:=A' x.CZ/\A' x.DX/\True/\x.A6.size<=9223372036854775807/\x.Bc.size<=9223372036854775807/\A' x.Dn/\True/\True/\True/\True/\True/\x.Bt.wf/\x.CW.wf/\True/\A' x.Jc/\A' x.JL/\A' x.GW
@[reducible] def DL:Shape Bv where
 H:=Value×Value×Value×Value×Value×Value
 size:=29
 cells x h:=BY x h.1 h.2.1 h.2.2.1 h.2.2.2.1 h.2.2.2.2.1 h.2.2.2.2.2
 sub x h:=[⟨h.1,x.Aj⟩,⟨h.2.1,x.Bz⟩,⟨h.2.2.1,x.AA⟩,⟨h.2.2.2.1,x.Bj⟩,⟨h.2.2.2.2.1,x.CX⟩,⟨h.2.2.2.2.2,x.Cf⟩]
 wf:=Bv.wf
 len _ _:=rfl
 one:=by
  intro S w x h Av u hu;have JZ:=Fh (Av _ (ABx ..));have Ie:=Fh (Av _ (Qm 1 G));have II:=Fh (Av _ (Qm 2 G));have IJ:=Fh (Av _ (Qm 3 G));have J0:=Fh (Av _ (Qm 4 G));have Ks:=Fh (Av _ (Qm 5 G));simp only[BY,ABf,ABh,ABi]at hu;rcases hu with rfl|rfl|rfl|rfl|rfl|rfl|rfl|rfl|rfl|rfl|rfl|rfl|rfl|rfl|rfl|rfl|rfl|rfl|rfl|rfl|rfl|rfl|rfl|rfl|rfl|rfl|rfl|rfl|rfl<;>first|rfl|exact JZ|exact Ie|exact II|exact IJ|exact J0|exact Ks
@[reducible] instance Axk:Be Bv:=Be.D5 DL
structure Dg where
 Ca:Int
 Ap:Int
 As:Int
 Dn:Int
 Bn:Int
 DH:Int
 Al:ByteArray
 G0:Int
 Cn:Int
 It:Int
 Jr:Bool
 AM:FL
 Dj:Fs
 Cf:List UInt8
 deriving DecidableEq,Inhabited
@[reducible] def IT(x:Dg)(AS:Value):List Value:=[.int .i64 x.Ca,.int .i64 x.Ap,.int .i64 x.As,.int .i64 x.Dn,.int .i64 x.Bn,.int .i64 x.DH,.string x.Al,.int .i64 x.G0,.int .i64 x.Cn,.int .i64 x.It,.bool x.Jr,.int .i64 x.AM.Ca,.string x.AM.Al,.string x.AM.EL,.int .i64 x.AM.B2,.int .i64 x.AM.A6,.int .i64 x.AM.Bc,.int .i64 x.Dj.Ev,.int .i64 x.Dj.Hi,.int .i64 x.Dj.IX,.string x.Dj.A6,.string x.Dj.Bc,.int .i64 x.Dj.Ap,.int .i64 x.Dj.As,AS]
def Dg.wf(x:Dg):Prop:=A' x.Ca/\A' x.Ap/\A' x.As/\A' x.Dn/\A' x.Bn/\A' x.DH/\x.Al.size<=9223372036854775807/\A' x.G0/\A' x.Cn/\A' x.It/\True/\x.AM.wf/\x.Dj.wf/\True
@[reducible] def s7:Shape Dg where
 H:=Value
 size:=25
 cells x h:=IT x h
 sub x h:=[⟨h,x.Cf⟩]
 wf:=Dg.wf
 len _ _:=rfl
 one:=by
  intro S w x h Av u hu;have JZ:=Fh (Av _ (ABx ..));simp only[IT,ABf,ABh,ABi]at hu;rcases hu with rfl|rfl|rfl|rfl|rfl|rfl|rfl|rfl|rfl|rfl|rfl|rfl|rfl|rfl|rfl|rfl|rfl|rfl|rfl|rfl|rfl|rfl|rfl|rfl|rfl<;>first|rfl|exact JZ
@[reducible] instance W7:Be Dg:=Be.D5 s7
theorem Sr{x:Dg}:AuF W7 E_ 1 1 x x.Ap:=by
 rintro S w cs ⟨h,rfl,hs,hw⟩;exact⟨rfl,hw.2.1⟩
theorem Ss{x:Dg}:AuF W7 E_ 2 1 x x.As:=by
 rintro S w cs ⟨h,rfl,hs,hw⟩;exact⟨rfl,hw.2.2.1⟩
theorem Agj{x:Dg}:AuF W7 E_ 5 1 x x.DH:=by
 rintro S w cs ⟨h,rfl,hs,hw⟩;exact⟨rfl,hw.2.2.2.2.2.1⟩
theorem kN{x:Dg}:AuF W7 Nl 6 1 x x.Al:=by
 rintro S w cs ⟨h,rfl,hs,hw⟩;exact⟨rfl,hw.2.2.2.2.2.2.1⟩
theorem Agk{x:Dg}:AuF W7 E_ 9 1 x x.It:=by
 rintro S w cs ⟨h,rfl,hs,hw⟩;exact⟨rfl,hw.2.2.2.2.2.2.2.2.2.1⟩
@[reducible] def Gs:Fs:=⟨0,0,0,ByteArray.empty,ByteArray.empty,0,0⟩
@[reducible] def cz:GC:=⟨0,0⟩
@[reducible] def PF:F_:=⟨0,0,0,0⟩
@[reducible] def FX:AD:=⟨ByteArray.empty,cz,0,0,[],PF⟩
@[reducible] def Np:Bv:=⟨0,0,false,ByteArray.empty,ByteArray.empty,0,[],[],[],[],[],Gs,Gs,[],0,0,0⟩
@[reducible] def fg(x:BX):F_:=⟨x.Ap,x.As,x.DH,x.AM.B2⟩
@[reducible] def IA(b:Bool):Int:=if b=true then 0 else 21
theorem aA(b:Bool):decide (IA b=0)=b:=by cases b<;>rfl
def EW:Int:=4611686018427387904
def Ih(g:Int):Bool:=decide (g>=1)&&decide (g<8)
def AuX(n:Int):Bool:=decide (n>=0)&&decide (n<=EW)
def Avp(n:Int):Bool:=decide (n>=1)&&decide (n<=8)
def Au5(n:Int):Bool:=decide (n>=1)&&decide (n<=EW)
def Jj(c q:Int):Bool:=decide (c>=1)&&decide (c<=8)&&decide (q>=1)&&decide (q<=EW)
def Ix(k:ByteArray):Bool:=decide ((k.size:Int)>=1)&&decide ((k.size:Int)<=16)
def fc(x y:ByteArray):Bool:=Ds x y||decide (x=y)
def isNil(k:ByteArray):Bool:=decide (k=ByteArray.empty)
def within(BQ Ag key:ByteArray):Bool:=(Ds BQ key||decide (BQ=key))&&(isNil Ag||Ds key Ag)
def PQ(BQ Ag:ByteArray):Bool:=decide ((BQ.size:Int)<=16)&&decide ((Ag.size:Int)<=16)&&(isNil Ag||Ds BQ Ag)
def Rb(s:GC)(v:Int):Bool:=decide (s.A6<=v)&&decide (v<=s.Bc)
def F'(s:Bv)(key:ByteArray):Bool:=s.Du&&within s.A6 s.Bc key
def Ef(s:Bv)(key:ByteArray):Bool:=(!decide (s.Bt.Ev=0))&&within s.Bt.A6 s.Bt.Bc key
def LK(p:Fs):Bool:=decide (p.Ev>=1)&&decide (p.Ev<=EW)&&Ih p.Hi&&Ih p.IX&&(!decide (p.Hi=p.IX))&&PQ p.A6 p.Bc
def Avq(p:Fs):Bool:=AuX p.Ev&&decide (p.Ev>0)&&Ih p.Hi&&Ih p.IX&&(!decide (p.Hi=p.IX))&&PQ p.A6 p.Bc
def Sk(l:F_):Bool:=decide (l.Ap>=1)&&decide (l.As>=1)&&decide (l.DH>=1)&&decide (l.DH<8)
def Au'(m t:Int):Int:=if decide (m=1)&&decide (t=1)then 1 else if decide (m=2)||decide (t=2)then 2 else 0
def JN(m t:Int):Int:=if decide (m=2)||decide (t=2)then 2 else if decide (m=1)&&decide (t=1)then 1 else 0
def G_(a:AD):Bool:= !decide (a.BG.Ap=0)
def yY(l:List ZR)(i:Int):ByteArray:=if decide (i<0)||decide (i>=(l.length:Int)-1)then ByteArray.empty else(l.getD (i+1).toNat default).Hi
def AdU(r:QM):Bool:=Ih r.CZ&&decide ((r.Al.size:Int)>=1)&&decide ((r.Al.size:Int)<=16)&&decide (r.G0>=1)
def Gd(n:Nat)(p:Nat->Bool):Option Nat:=(List.range n).find? p
theorem Tc{n j:Nat}{p:Nat->Bool}(Ay:j<n)(Bw:∀k,k<j->p k=false)(h:p j=true):Gd n p=some j:=
 ADz.2 ⟨h,ABw.2 Ay,fun k AE=>by simp[Bw k AE]⟩
theorem Tb{n:Nat}{p:Nat->Bool}(h:∀k,k<n->p k=false):Gd n p=none:=
 List.find?_range_eq_none.2 fun k AE=>by simp[h k AE]
theorem YT{b:Bool}(h:b=false):(!b)=true:=by rw[h];rfl
theorem YU{b:Bool}(h:b=true):(!b)=false:=by rw[h];rfl
def Nh(f:Nat->Int):Nat->Int
 |0=>0
 |i+1=>f i
def X1(l:List Int):Bool:=allI l.length (fun j=> !(decide (l.getD j default<0)||decide (l.getD j default>EW)))
def fk(p:Int)(m:BL):Bool:=decide (m.Ap<=p)||decide (m.Ap>8)||decide (m.As<0)||decide (m.As>EW)||(m.HV&&(decide (m.As=0)|| !decide (m.Cm=⟨0,0,0,0⟩)))
def Fg(l:List BL):Bool:=allI l.length (fun j=> !fk (Nh (fun k=>(l.getD k default).Ap) j) (l.getD j default))
def HE(l:List Df):Bool:=allI l.length (fun j=> !(decide ((l.getD j default).Ap<=Nh (fun k=>(l.getD k default).Ap) j)|| !Jj (l.getD j default).Ap (l.getD j default).As))
def V2(d:Bx):Bool:= !Jj d.Ap d.As||decide (d.B2<1)||decide (d.Al=d.EL)||decide (d.DN<0)||decide (d.DN>2)||decide (d.DO<0)||decide (d.DO>2)
def ae(d:Bx):Bool:=decide ((d.Al.size:Int)<1)||decide ((d.Al.size:Int)>16)||decide ((d.EL.size:Int)<1)||decide ((d.EL.size:Int)>16)
def M1(d:Bx):Bool:=if V2 d=true then false else if ae d=true then false else decide (d.C3=JN d.DN d.DO)||(decide (JN d.DN d.DO=0)&&decide (d.C3=2))
def YZ(s:Bv):Bool:=if(!s.Du)=true then(isNil s.A6&&isNil s.Bc&&decide ((s.Aj.length:Int)=0)&&decide ((s.AA.length:Int)=0)&&decide (s.Bt=⟨0,0,0,ByteArray.empty,ByteArray.empty,0,0⟩))else decide (s.Dn>=1)&&PQ s.A6 s.Bc
def Zx(s:Bv)(w:BX):Bool:= !Jj w.Ap w.As|| !Ix w.AM.Al|| !F' s w.AM.Al||Ef s w.AM.Al
def Xu(w:BX):Bool:=decide (w.Bn>=1)&&decide (w.Bn<=5)&&decide (w.DH=0)&&decide (w.AM.Ca>=1)&&decide (w.AM.Ca<=5)&&(decide (w.AM.Ca>2)||decide (w.AM.B2>=1))
def Xv(w:BX):Bool:=decide (w.Bn=0)&&Ih w.DH&&(!decide (w.AM.B2=0))&&decide (w.AM=⟨0,w.AM.Al,ByteArray.empty,w.AM.B2,0,0⟩)
def Mr(s:Bv)(w:BX):Bool:=if Zx s w=true then false else if decide (w.Ca=1)=true then Xu w else if decide (w.Ca=2)=true then Xv w else false
def eU(p:Int)(h:BD):Bool:=decide (h.Bn<=p)||decide (h.Bn>5)||decide (h.G0<1)||decide (h.DV<0)||decide (h.Fc<0)
def LI(l:List BD):Bool:=allI l.length (fun j=> !eU (Nh (fun k=>(l.getD k default).Bn) j) (l.getD j default))
def AvT(p:Int)(m:BL):Bool:=decide (m.Ap<=p)||decide (m.Ap>8)||decide (m.As<0)||decide (m.As>EW)||(m.HV&&(decide (m.As<1)|| !decide (m.Cm=⟨0,0,0,0⟩)))
def AvA(l:List BL):Bool:=allI l.length (fun j=> !AvT (Nh (fun k=>(l.getD k default).Ap) j) (l.getD j default))
def Avm(d:Bx):Bool:= !Avp d.Ap|| !Au5 d.As|| !Ix d.Al|| !Ix d.EL||decide (d.Al=d.EL)||decide (d.B2<1)||decide (d.DN<0)||decide (d.DN>2)||decide (d.DO<0)||decide (d.DO>2)
def Ave(d:Bx):Bool:=if Avm d=true then false else decide (d.C3=Au' d.DN d.DO)||(decide (Au' d.DN d.DO=0)&&decide (d.C3=2))
def Kt(l:List Bx)(c q:Int):Option Nat:=Gd l.length (fun j=>decide ((l.getD j default).Ap=c)&&decide ((l.getD j default).As=q))
def HI:Option Nat->Int
 |some j=>(j:Int)
 |none=> -1
def AvL(l:List Bx):Bool:=allI l.length (fun j=> !(!Ave (l.getD j default)|| !decide (HI (Kt l (l.getD j default).Ap (l.getD j default).As)=(j:Int))))
def Avi(l:List Bx):Bool:=AvL l&&decide ((l.length:Int)<=4)
def Avx(l:List Df):Bool:=allI l.length (fun j=> !(decide ((l.getD j default).Ap<=Nh (fun k=>(l.getD k default).Ap) j)||decide ((l.getD j default).Ap>8)|| !Au5 (l.getD j default).As))
def AvI(s:Bv)(w:BX):Bool:= !Avp w.Ap|| !Au5 w.As|| !Ix w.AM.Al|| !F' s w.AM.Al||Ef s w.AM.Al
def AAk(w:BX):Bool:=decide (w.Bn>=1)&&decide (w.Bn<=5)&&decide (w.DH=0)&&decide (w.AM.Ca>=1)&&decide (w.AM.Ca<=5)&&(decide (w.AM.Ca>2)||decide (w.AM.B2>=1))
def AwF(w:BX):Bool:=decide (w.Bn=0)&&Ih w.DH&&decide (w.AM=⟨0,w.AM.Al,ByteArray.empty,w.AM.B2,0,0⟩)&&(!decide (w.AM.B2=0))
def Au8(s:Bv)(w:BX):Bool:=if AvI s w=true then false else if decide (w.Ca=1)=true then AAk w else if decide (w.Ca=2)=true then AwF w else false
theorem OE(v:Int):IntKind.u64.wrap v=v % 18446744073709551616:=by simp[IntKind.wrap,IntKind.signed,IntKind.bits]
theorem mC(v:Int):IntKind.i64.wrap v=(v+9223372036854775808) % 18446744073709551616-9223372036854775808:=by
 simp only[IntKind.wrap,IntKind.signed,IntKind.bits];simp;omega
def Vk(x:Int):Int:=if x<0 then-1 else 0
theorem lM(x:Int):Vk x= -1/\x<0\/Vk x=0/\0<=x:=by unfold Vk;split<;>omega
theorem ti{x:Int}(h:A' x):x.fdiv (2^min (63:Int).toNat IntKind.i64.bits)=Vk x:=by
 have e:(2:Int)^min (63:Int).toNat IntKind.i64.bits=9223372036854775808:=AGp;rw[e,Int.fdiv_eq_ediv_of_nonneg _ AGp];obtain⟨Af,h2⟩:=h;have:=lM x;omega
def nb(l:List Int):Prop:=∀x∈l,A' x
theorem Aau{l:List Int}(h:nb l){i:Nat}(Ag:i<l.length):A' (l.getD i default):=by
 have:l.getD i default=l[i]:=by simp[List.getD,ABs Ag]
 rw[this];exact h _ (ACF Ag)
theorem AjZ{l:List Int}{i:Nat}(Ag:i<l.length):(l.take (i+1)).sum=(l.take i).sum+l.getD i default:=by
 have e:l.getD i default=l[i]:=by simp[List.getD,ABs Ag]
 rw[e,List.take_add_one,ABs Ag];rw[List.sum_append_int];simp
def J3(s:Int):Bool:=decide (-9223372036854775808<=s)&&decide (s<=9223372036854775807)
def Lo(s:Int):Int:=if J3 s=true then s else 0
def No(s:Int):Int:=if J3 s=true then 0 else 10
@[reducible] def SA(s:Int):Value:=.tuple #[.int .i64 (Lo s),.int .i64 (No s)]
theorem AjY{S Ag BQ x:Int}(Af:Ag=S / 18446744073709551616 % 18446744073709551616)(h2:BQ=S % 18446744073709551616)(Ab:A' x):
 (Ag+Vk x % 18446744073709551616+(BQ+x % 18446744073709551616+0) / 18446744073709551616) % 18446744073709551616=(S+x) / 18446744073709551616 % 18446744073709551616/\
 (BQ+x % 18446744073709551616+0) % 18446744073709551616=(S+x) % 18446744073709551616:=by
 obtain⟨Bo,BB⟩:=Ab;have:=lM x;omega
theorem AjX{S Ag BQ:Int}(Af:Ag=S / 18446744073709551616 % 18446744073709551616)(h2:BQ=S % 18446744073709551616)(Aq: -85070591730234615856620279821087277056<=S/\S<=85070591730234615856620279821087277056):
 (Ag=Vk (IntKind.i64.wrap BQ) % 18446744073709551616↔J3 S=true)/\(J3 S=true->IntKind.i64.wrap BQ=S):=by
 rw[mC];have:=lM ((BQ+9223372036854775808) % 18446744073709551616-9223372036854775808);simp only[J3,ABb,ABa];omega
theorem hg{x y:Int}(Ab:A' x)(Bf:A' y):((decide (x>=0)&&decide (y>=0)&&decide (IntKind.i64.wrap (x+y)<0))||(decide (x<0)&&decide (y<0)&&decide (IntKind.i64.wrap (x+y)>=0)))= !J3 (x+y)/\(J3 (x+y)=true->IntKind.i64.wrap (x+y)=x+y):=by
 rw[mC];obtain⟨DP,EK⟩:=Ab;obtain⟨CY,Dh⟩:=Bf;constructor
 · rw[ACy];simp only[J3,ABk,ABb,ABa,ABe,ACu,ABl];omega
 · simp only[J3,ABb,ABa];omega
def UJ(a:AD)(l:F_):Bool:=decide (No (a.BT+l.B2)=0)&&Rb a.Cs (Lo (a.BT+l.B2))
def I7(a:AD):Int:=a.BT+(a.A0.map (·.DV)).sum
def IU(a:AD):Int:=a.BT-(a.A0.map (·.Fc)).sum
@[reducible] def Adv(a:AD):Value:=.tuple #[.int .i64 (Lo (I7 a)),.int .i64 (Lo (IU a)),.bool (decide (No (I7 a)=0)&&decide (No (IU a)=0))]
def VO(a:AD):Bool:=decide ((a.Al.size:Int)<1)||decide ((a.Al.size:Int)>16)|| !Rb a.Cs a.BT||decide (a.Cn<0)|| !LI a.A0
def XQ(a:AD):Bool:= !(decide (No (I7 a)=0)&&decide (No (IU a)=0))||decide (Lo (I7 a)>a.Cs.Bc)||decide (Lo (IU a)<a.Cs.A6)
def E4(a:AD):Bool:=if VO a=true then false else if XQ a=true then false else if decide (a.BG.Ap=0)=true then decide (a.BG=⟨0,0,0,0⟩)else Sk a.BG&&decide ((a.A0.length:Int)=0)&&UJ a a.BG
def FT(a:AD):Bool:=E4 a&&decide (a.Cs=⟨0,0⟩)&&decide (a.BT=0)&&decide ((a.A0.length:Int)=0)&&decide (a.Cn=0)&& !G_ a
def AfT(x y:QM):Int:=if(!decide (x.CZ=y.CZ))=true then(if decide (x.CZ<y.CZ)=true then-1 else 1)else RO x.Al y.Al
def Adr(l:List QM)(j:Nat):Bool:= !AdU (l.getD j default)||(decide ((j:Int)>0)&&decide (AfT (l.getD ((j:Int)-1).toNat default) (l.getD j default)>=0))
def Adq(l:List QM):Bool:=allI l.length (fun j=> !Adr l j)
theorem Alo(v:Int):A' (IntKind.i64.wrap v):=by
 rw[mC];constructor<;>omega
theorem AjW(s:Int):A' (Lo s):=by
 unfold Lo;split
 · rename_i h;simp only[J3,ABb,ABa]at h;exact h
 · exact⟨AGp,AGp⟩
def dv(s:Bv)(j:Nat):Bool:= !decide (IA (E4 (s.Aj.getD j default))=0)||FT (s.Aj.getD j default)|| !F' s (s.Aj.getD j default).Al||(decide ((j:Int)>0)&&fc (s.Aj.getD j default).Al (s.Aj.getD ((j:Int)-1).toNat default).Al)
def VP(s:Bv):Bool:=if decide ((s.Aj.length:Int)>12)=true then false else allI s.Aj.length (fun j=> !dv s j)
def ab(l:List Bx)(j:Nat):Bool:= !M1 (l.getD j default)|| !decide (HI (Kt l (l.getD j default).Ap (l.getD j default).As)=(j:Int))
def Is(l:List Bx):Bool:=if decide ((l.length:Int)>4)=true then false else allI l.length (fun j=> !ab l j)
theorem Q4{n j:Nat}{p:Nat->Bool}(h:Gd n p=some j):j<n:=ABw.1 (ADz.1 h).2.1
structure JD where
 v:Value
instance Qx:Be JD where
 size:=1
 agg:=false
 rd S w cs x:=cs=[x.v]/\x.v.oneCell'=true
 len:=by rintro S w cs x ⟨rfl,_⟩;rfl
 one:=by
  rintro S w cs x ⟨rfl,h⟩ u hu;simp only[ABf,ABh,ABi]at hu;subst hu;exact h
 DY:=by
  rintro S Fq w AT cs x h _ _;exact h
@[reducible] instance AmN:Vz Qx:=⟨fun x=>x.v,fun x=>x.v.oneCell'=true,fun h=>h⟩
structure Gb where
 r:Nat
@[reducible] def Gb.zC(x:Gb):JD:=⟨.pointer (some ⟨x.r,0,none⟩)⟩
@[reducible] def Gb.zB(_:Gb):Int:=0
@[reducible] def AjG:Shape Gb where
 H:=Unit
 size:=4
 cells x _:=[.pointer (some ⟨x.r,0,none⟩),.slice none 0 0,.bool false,.int .i64 0]
 sub _ _:=[]
 wf _:=True
 len _ _:=rfl
 one:=by
  intro S w x h Av u hu;simp only[ABf,ABh,ABi]at hu;rcases hu with rfl|rfl|rfl|rfl<;>rfl
@[reducible] instance sU:Be Gb:=Be.D5 AjG
theorem Ku{x:Gb}:AuF sU Qx 0 1 x x.zC:=by
 rintro S w cs ⟨h,rfl,hs,hw⟩;exact⟨rfl,rfl⟩
theorem sn{x:Gb}:AuF sU E_ 3 1 x x.zB:=by
 rintro S w cs ⟨h,rfl,hs,hw⟩;exact⟨rfl,(by decide:(-9223372036854775808:Int)<=0),(by decide:(0:Int)<=9223372036854775807)⟩
def Ml(s:Bb):Bool:= !decide ((s.fault:Int)=0)|| !decide ((0:Int)=0)
theorem N2(s:Bb):Ml s=true↔s.fault≠0:=by
 unfold Ml;simp
theorem Xf(s:Bb):Ml s=false↔s.fault=0:=by
 rw[<-ACH,N2];simp
def NG:List UInt8->Bool×Nat×Nat
 |[]=>(false,0,20)
 |c::_=>if 1<c.toNat then(false,0,21)else(decide (c=1),1,0)
def Kw(J:List UInt8):VJ Bool:=Lj J false NG
theorem AjS{s:Bb}(h:s.fault≠0)(n e:Nat):s.step n e=s:=by unfold Bb.step;rw[if_pos h]
theorem fM{α:Type}{J:List UInt8}{d:α}{f:List UInt8->α×Nat×Nat}{s:Bb}(h:s.fault≠0):(Lj J d f s).2=s:=by
 rcases Fx:f (J.drop s.pos)with⟨x,n,e⟩;simp only[Lj,Fx,AjS h]
theorem Ah8{J:List UInt8}{s:Bb}(h:s.fault≠0):(D6 J s).2=s:=fM (d:=0) (f:=HH 0 0) h
theorem Aif{J:List UInt8}{m:Int}{s:Bb}(h:s.fault≠0):(Gm J m s).2=s:=fM (d:=[]) (f:=fun l=>N3 l m) h
theorem Ah5{J:List UInt8}{s:Bb}(h:s.fault≠0):(Kw J s).2=s:=fM (d:=false) (f:=NG) h
theorem oY(J:List UInt8):(NG J).2.1<=J.length/\((NG J).2.2≠0->(NG J).1=false/\(NG J).2.1=0):=by
 cases J with
 |nil=>simp[NG]
 |cons c r=>
  simp only[NG];by_cases h:1<c.toNat
  · rw[AA_ h];simp
  · rw[AA9 h];simp
theorem sI{J:List UInt8}{s:Bb}(AH:s.pos<=J.length):(Kw J s).2.pos<=J.length:=fL AH fun l=>(oY l).1
def Q0(J:List UInt8)(s:Bb):Int:=if s.fault=0/\s.pos<J.length then 24 else(s.fault:Int)
def CO(J:List UInt8):List Nat->List Value×Bb->List Value×Bb
 |[],p=>p
 |o::r,p=>CO J r (p.1.set o (.int .i64 (D6 J p.2).1),(D6 J p.2).2)
def Ea(J:List UInt8):List Nat->List Value×Bb->List Value×Bb
 |[],p=>p
 |o::r,p=>Ea J r (p.1.set o (.string ⟨(Gm J 65535 p.2).1.toArray⟩),(Gm J 65535 p.2).2)
def gQ(cells:List Value)(offs:List Nat):Prop:=∀o∈offs,cells[o]? =some (.int .i64 0)
def gR(cells:List Value)(offs:List Nat):Prop:=∀o∈offs,cells[o]? =some (.string ByteArray.empty)
def NW(b:Nat)(offs:List Nat):List JD:=offs.map fun o=>⟨.pointer (some ⟨b,o,none⟩)⟩
theorem Y4{b:Nat}{offs:List Nat}:(NW b offs).length=offs.length:=List.length_map _
theorem sr{b:Nat}{offs:List Nat}{i:Nat}(h:i<offs.length):(NW b offs)[i]? =some ⟨.pointer (some ⟨b,offs.getD i 0,none⟩)⟩:=by
 simp[NW,List.getD,ABs h]
theorem Hw{J:List UInt8}:∀{offs:List Nat} {p:List Value×Bb},p.2.pos<=J.length->(CO J offs p).2.pos<=J.length
 |[],_,h=>h
 |_::r,_,h=>Hw (offs:=r) (Hb h)
theorem MP{J:List UInt8}:∀{offs:List Nat} {p:List Value×Bb},p.2.pos<=J.length->(Ea J offs p).2.pos<=J.length
 |[],_,h=>h
 |_::r,_,h=>MP (offs:=r) (Vf h)
theorem TW{cells:List Value}{o:Nat}{v:Value}(h:cells[o]? =some v):cells.set o v=cells:=by
 refine List.ext_getElem? fun n=>?_;rw[List.getElem?_set];split
 · rename_i e;subst e;have:=(ABF.1 h).1;rw[AA_ this,h]
 · rfl
theorem Rj{cells:List Value}{o:Nat}{v:Value}(h:cells[o]? =some v):o<cells.length:=(ABF.1 h).1
theorem drop_cons{offs:List Nat}{i:Nat}(h:i<offs.length):offs.drop i=offs.getD i 0::offs.drop (i+1):=by
 rw[List.drop_eq_getElem_cons h];simp[List.getD,ABs h]
theorem Ah9{J:List UInt8}{s:Bb}(h:s.fault≠0):(D6 J s).1=0:=by
 have:(rdNum J s).1=0:=by
  simp only[rdNum,Lj,Bb.val];rw[AA_ h]
 show Ul (rdNum J s).1=0;rw[this];rfl
theorem Aig{J:List UInt8}{m:Int}{s:Bb}(h:s.fault≠0):(Gm J m s).1=[]:=by
 simp only[Gm,Lj,Bb.val];rw[AA_ h]
theorem Ah6{J:List UInt8}{s:Bb}(h:s.fault≠0):(Kw J s).1=false:=by
 simp only[Kw,Lj,Bb.val];rw[AA_ h]
theorem AcN{J:List UInt8}{o:Nat}{r:List Nat}{c:List Value}{s:Bb}(h:s.fault≠0)(Bm:c[o]? =some (.int .i64 0)):CO J (o::r) (c,s)=CO J r (c,s):=by
 simp only[CO,Ah9 h,Ah8 h];rw[TW Bm]
theorem vu{α:Type}{c:List Value}{o:Nat}{r:List Nat}{u z:Value}(Ao:(o::r).Nodup)(h:∀x∈r,c[x]? =some z):∀x∈r,(c.set o u)[x]? =some z:=by
 intro x Ab;rw[List.getElem?_set_ne]
 · exact h x Ab
 · rintro rfl;exact(List.nodup_cons.1 Ao).1 Ab
theorem Y5{b:Nat}(S:Nat->Prop)(w:World):∀offs:List Nat,Go.A_.HM S w (offs.map fun o=>[.pointer (some ⟨b,o,none⟩)]) (NW b offs)
 |[]=>trivial
 |_::r=>⟨⟨rfl,rfl⟩,Y5 S w r⟩
def GI{α:Type}(rd:Bb->α×Bb):Nat->Bb->List α×Bb
 |0,s=>([],s)
 |n+1,s=>if s.fault=0 then((rd s).1::(GI rd n (rd s).2).1,(GI rd n (rd s).2).2)else([],s)
def CS{α:Type}(J:List UInt8)(rd:Bb->α×Bb)(s:Bb):List α×Bb:=GI rd (DT J 1024 s).1 (DT J 1024 s).2
def B2(J:List UInt8)(s:Bb):Bb:=(Kw J s).2
end Go.Apw
namespace Go.A_
section
theorem SL{c:List Value}{offs:List Nat}(h:offs.map (fun o=>c[o]?)=offs.map fun _=>some (.int .i64 0)):gQ c offs:=fun o A7=>ADS.1 h o A7
theorem vr{c:List Value}{offs:List Nat}(h:offs.map (fun o=>c[o]?)=offs.map fun _=>some (.string ByteArray.empty)):gR c offs:=fun o A7=>ADS.1 h o A7
@[reducible] def XB(l:List Oper)(L dm:Own)(vs:List (Nat×Value))(b:Nat)(offs:List Nat):Iq:=
 ⟨GF l,fun _ _=>True,fun i u=>bif Nat.beq i (l.length-2)then[⟨u,NW b offs⟩]else[],Ex vs,fun h _=>match h with
  |[]=>L
  |_=>dm,[l.length-1],[[],[l.length-1]]⟩
def b9(B1:List (Nat×List Nat))(l:List Oper)(env:Env)(vs:List (Nat×Value)):List Oper->Nat->List (Option Value)
 |[],_=>[]
 |o::r,i=>(match o with
  |⟨some _,op,_,_,_,none⟩=>By B1 (Eo l (EC (Ex vs) fun _=>undef) (GF l i)++env) op
  |_=>none)::b9 B1 l env vs r (i+1)
def Xp(vs:List (Nat×Value)):List Oper->Nat->List (Option Value)
 |[],_=>[]
 |_::r,i=>Ex vs i::Xp vs r (i+1)
section
variable{c:Cj} {l:List Oper} {env:Env} {L dm:Own} {D:List Atom} {vs:List (Nat×Value)} {b:Nat} {offs:List Nat}
theorem sh{B1:List (Nat×List Nat)}:∀{r:List Oper} {i:Nat},b9 B1 l env vs r i=Xp vs r i->(Xp vs r i).all (·.isSome)=true->∀k o,r[k]? =some o->∃d op t p af u,o=⟨some d,op,t,p,af,none⟩/\Ex vs (i+k)=some u/\By B1 (Eo l (EC (Ex vs) fun _=>undef) (GF l (i+k))++env) op=some u
 |[],_,_,_,_,_,h=>by simp at h
 |o::r,i,h,AK,0,Lg,Bw=>by
  simp only[ABV,ABX]at Bw;subst Bw;simp only[b9,Xp,ACj,ABn,ABb]at h AK;obtain⟨u,hu⟩:=ACC.1 AK.1;have Af:=h.1;rw[hu]at Af;split at Af
  · exact⟨_,_,_,_,_,u,rfl,hu,Af⟩
  · cases Af
 |o::r,i,h,AK,k+1,Lg,Bw=>by
  simp only[ABC]at Bw;simp only[b9,Xp,ACj,ABn,ABb]at h AK;have:=sh (i:=i+1) h.2 AK.2 k Lg Bw
  rwa [show i+1+k=i+(k+1)by omega]at this
theorem y9{V:Nat->Value}{m:Nat}(AE:∀k,k<m->(CN l k).isSome=true->(Ex vs k).isSome=true){is:List Nat}(Ag:∀k∈is,k<m):Eo l (EC (Ex vs) V) is=Eo l (EC (Ex vs) fun _=>undef) is:=UC fun k J_ AJ=>by
 obtain⟨v,BC⟩:=ACC.1 (AE k (Ag k J_) AJ);simp[EC,BC]
theorem aC{g:Nat->Value}:∀offs:List Nat,(offs.map fun o=>[g o]).flatten=offs.map g
 |[]=>rfl
 |_::r=>by rw[AB8,List.flatten_cons,aC r];rfl
theorem m0{s:Iq}:∀{r:List Oper} {i:Nat},(∀k o,r[k]? =some o->∀(V:Nat->Value) (Az:List Atom),E7 (fun h=>Cb (Nf c l s (D++Az) (i+k) h (h.map V)) c l.toArray [o] (Eo l (EC s.Eb V) (s.E8 (i+k))++env) (s.L h (h.map V)) (FM s.rs (EC s.Eb V) (s.E8 (i+k))++(D++Az))) (Ro l s (i+k)))->OG c l s env D r i
 |[],_,_=>trivial
 |o::r,i,h=>⟨fun V Az _=>h 0 o rfl V Az,m0 fun k Lg AE=>by
  have:=h (k+1) Lg (by simpa using AE)
  rwa [show i+(k+1)=i+1+k by omega]at this⟩
theorem yA{i k:Nat}(h:ND l=true)(AE:k∈GF l i):k<i:=by
 unfold GF at AE;split at AE
 · rename_i o A7;obtain⟨e,he,rfl⟩:=AB6.1 AE;obtain⟨Af,h2⟩:=ABZ.1 he;simp only[ABb]at h2;have Ee:i<l.length:=(ABF.1 A7).1;have Aq:=ABq.1 h i (ABw.2 Ee);rw[A7]at Aq;have:=ABq.1 Aq e Af;rw[h2.1.1]at this;exact EU (by simpa using this)
 · cases AE
theorem MM[Cr:J7 c.P]{Q:AuE}{id:Nat}(b:Nat)(offs ix:List Nat){f:FuncId}{sy:Value}{L0 DM Lr:Own}{DB:Value->List Atom}{T vC bytes d1 d2:Nat}{t1 t2:TypeId}{Rn WY:String}{wT wU:Array Edge}{b':List (Nat×Operand)}{xs:List Operand}{ats:Array TypeId}{E:Env}{DZ:Own}{S':List (Nat×VA)}
 (Bm:∀u,Aw c.P f [sy,u] L0 (DB u) (fun(_:Unit) _=>True) (fun _ _=>DM) fun _ _=>[])(CM:GU c.P f)(Av:EH c.P T vC 1 bytes)
 (AN:(l.drop (l.length-2),L)=([⟨some d1,.buildSlice T offs.length b'.toArray,t1,Rn,wT,none⟩,⟨some d2,.call ⟨.value (.func f),xs.toArray,ats⟩,t2,WY,wU,none⟩],L0++Lr))
 (_:(hO l env fun e=>cu Cr.B1 Cr.os Cr.rs ([]:List (Nat×Oa c.P)) l.toArray (l.take (l.length-2)) 0 L [] [] e)=some (vs,S',DZ,E))
 (pt:(Pv l (Gv l env)&&ND l&&LX l c.n&&OL l (XB l L (DM++Lr) vs b offs)&&(Xp vs (l.take (l.length-2)) 0).all (·.isSome)&&Nat.ble 1 offs.length&&Nat.ble offs.length 1000,b9 Cr.B1 l (Gv l env) vs (l.take (l.length-2)) 0,(GF l (l.length-1)).contains (l.length-2),Gq (Eo l (EC (Ex vs) fun _=>undef) (GF l (l.length-2))++Gv l env) (b'.map (·.2)),partsOf (b'.map (·.2)),Ex vs (l.length-2),Ex vs (l.length-1),UD l vs (List.range l.length).reverse++Gv l env)
  =(true,Xp vs (l.take (l.length-2)) 0,true,some (offs.map fun o=>.pointer (some ⟨b,o,none⟩)),b',none,none,E))
 (LC:∀V:Nat->Value,(Gq (Eo l (EC (Ex vs) V) (GF l (l.length-1))++Gv l env) xs,(DB (V (l.length-2))).map some)=(some [sy,V (l.length-2)],ix.map fun i=>((⟨V (l.length-2),NW b offs⟩:Atom)::D)[i]?))
 (k:Eg c Q .normal E (DM++Lr) D):CF c (.region id l.toArray true) Q env L D:=by
 simp only[ACg,ABb]at AN pt LC;obtain⟨AN,rfl⟩:=AN;obtain⟨⟨⟨⟨⟨⟨⟨h2,C'⟩,EY⟩,BB⟩,C0⟩,eP⟩,pT⟩,Yv,Pz,I1,jA,Rh,jK,rfl⟩:=pt
 suffices hw:CF c (.region id l.toArray true) Q (Gv l env) (L0++Lr) D from fun a w f=>hw a w ⟨f.size,f.GV,fun i v Ag=>f.at_ i v (ah Ag)⟩
 generalize Gv l env=env at*;have hlen:l.length=(l.length-2)+2:=by
  have:=ABE List.length AN;simp at this;omega
 generalize pN:l.length-2=m at*;generalize Sd:l.length-1=Kq at*;obtain rfl:Kq=m+1:=AGn;have aE:l[m]? =(l.drop m)[0]? :=by simp
 have Hj:l[m+1]? =(l.drop m)[1]? :=by simp
 rw[AN]at aE Hj;simp only[ABV,ABC]at aE Hj;have p0:=sh Yv C0;have Md:∀k,k<m->(l.take m)[k]? =l[k]? :=fun k AE=>by rw[ACl,AA_ AE]
 have eN:∀k,k<m->(CN l k).isSome=true->(Ex vs k).isSome=true:=fun k AE _=>by
  obtain⟨d,op,t,p,af,u,_,hu,_⟩:=p0 k l[k] (by rw[Md k AE,ABs]);rw[AB0]at hu;rw[hu];rfl
 refine lh (XB l (L0++Lr) (DM++Lr) vs b offs) (fun _=>DM++Lr) Cr.fq (by
  simp only[fP,ABb];exact⟨⟨⟨⟨nY,h2⟩,C'⟩,EY⟩,BB⟩) rfl (E7.intro fun hh hm _=>?_) (m0 fun i o A7 V Az=>E7.intro fun hh hm=>?_) fun V _=>?_
 · have Af:=(ABZ.1 hm).2;cases hh with
   |nil=>simp at Af
   |cons x y=>rfl
 · rw[AB0]at hm ⊢;have Ag:i<l.length:=(ABF.1 A7).1;have jm:∀j,(XB l (L0++Lr) (DM++Lr) vs b offs).Eu.contains j=Nat.beq j (m+1):=fun j=>by
    show([l.length-1]:List Nat).contains j=_;rw[Sd];rw[ACy];simp[Nat.beq_eq]
   by_cases Sb:i=m+1
   · subst Sb;rw[Hj]at A7;injection A7 with A7;subst A7;have Ao:=gh EY Hj rfl;have AbJ:hh=[]:=by
      obtain⟨Af,Bo⟩:=ABZ.1 hm;simp only[ABb,ABk,ABe]at Bo;rcases Bo.1 with Bo|Bo
      · rw[jm]at Bo;simp at Bo
      · simp only[ABf,ABh,ABi]at Af;rcases Af with rfl|rfl
        · rfl
        · simp[Sd]at Bo
     subst AbJ;have Kp:(⟨V m,NW b offs⟩:Atom)∈FM (XB l (L0++Lr) (DM++Lr) vs b offs).rs (EC (Ex vs) V) (GF l (m+1)):=fp (s:=(XB l (L0++Lr) (DM++Lr) vs b offs).rs) (k:=m) (by simpa using Pz) (by
      show _∈(bif Nat.beq m (l.length-2)then _ else _);rw[show EC (Ex vs) V m=V m by simp[EC,Rh]];simp[pN])
     refine XY (Bm (V m)) CM (L:=L0++Lr) rfl (LC V).1 (fun a AK=>?_) Ao fun y v _=>nl (Ig (d:=d2) (u:=v) (by simp[CN,Hj]) (by simp[C1]) ?_ ?_ ?_ l1)
     · have Af:some a∈(DB (V m)).map some:=AB6.2 ⟨a,AK,rfl⟩;rw[(LC V).2]at Af;obtain⟨q,_,B'⟩:=AB6.1 Af;rcases ABf.1 (AA' B')with rfl|Af
       · exact ABm.2 (.inl Kp)
       · exact ABm.2 (.inr (ABm.2 (.inl Af)))
     · unfold Qp;rw[jm];simp
     · show(match Ex vs (m+1)with|some J4=>v=J4|none=>True);rw[jK];trivial
     · show Bg (bif Nat.beq (m+1) (l.length-2)then _ else _) _;rw[show Nat.beq (m+1) (l.length-2)=false from ACH _▸fun e=>by have:=ACI e;omega];exact Bg.nil
   · have FG:Nat.beq i (m+1)=false:=ACH _▸fun e=>Sb (ACI e);have LH:∀k∈GF l i,k<m:=fun k AE=>by have:=yA C' AE;omega
     have Ab:∀{DZ:Own} {u:Value},DZ=(XB l (L0++Lr) (DM++Lr) vs b offs).L hh (hh.map V)->DZ=Qp (XB l (L0++Lr) (DM++Lr) vs b offs) hh (hh.map V) i u:=fun e=>by
      unfold Qp;rw[jm,FG];exact e
     show Cb _ c l.toArray [o] (Eo l (EC (Ex vs) V) (GF l i)++env) _ _;rw[y9 eN LH];by_cases AbL:i=m
     · subst AbL;rw[aE]at A7;injection A7 with A7;subst A7;have Ao:=gh EY aE rfl;refine BH (xs:=b'.map (·.2)) I1 Av (by simp[List.all_map,Value.oneCell']) (by simpa using pT) (by cases offs with|nil=>simp at eP|cons=>rfl) (by simp) Ao jA fun KZ=>Q5 (NW b offs) (offs.map fun o=>[.pointer (some ⟨b,o,none⟩)]) (aC offs) (fun S w _=>Y5 S w _) (by rw[Y4];have:=ABy pT;omega) (nl (Ig (d:=d1) (u:=.slice (some ⟨KZ,0,none⟩) offs.length offs.length) (by simp[CN,aE]) (by simp[C1]) (Ab rfl) ?_ ?_ ?_))
       · show(match Ex vs i with|some J4=>_=J4|none=>True);rw[Rh];trivial
       · show Bg (bif Nat.beq i (l.length-2)then _ else _) _;rw[pN,show Nat.beq i i=true by simp];intro t Av;simp only[ACK,ADe]at Av;subst Av;rw[Y4];exact ABx ..
       · intro t Av;exact ABR _ (ABm.2 (.inr Av))
     · have AbM:i<m:=AGn;obtain⟨d,op,t,p,af,u,rfl,hu,Yw⟩:=p0 i o (by rw[Md i AbM];exact A7);rw[AB0]at hu Yw;have Ao:=gh EY A7 rfl;refine cc Cr.okF Yw Ao (nl (Ig (d:=d) (u:=u) (by simp[CN,A7]) (by simp[C1]) (Ab rfl) ?_ ?_ l1))
       · show(match Ex vs i with|some J4=>u=J4|none=>True);rw[hu]
       · show Bg (bif Nat.beq i (l.length-2)then _ else _) _;rw[show Nat.beq i (l.length-2)=false from ACH _▸fun e=>by have:=ACI e;omega];exact Bg.nil
 · intro a w f st AR;refine k a w ⟨f.size,f.GV,fun i v Ag=>f.at_ i v ?_⟩ st (AR.sub fun t Av=>ABm.2 (.inr Av));exact y_ h2 Ag
end
end
def MU(P:Program)(T:TypeId){α:Type}(r:Be α):Prop:=
 ∀(H:Type) (enc:TypeId×Value->H) (w:World) (fuel:Nat) (cs:List Value) (x:DataW H×List MemPlace),DataW.trod enc P w 0 (fun _=>true) true fuel T cs=some x->∃a:α,r.rd (fun b=>b<w.heap.size) w cs a
theorem AfN{P:Program}{T:TypeId}(hu:P.underlying T=some (.int .i64)):MU P T E_:=by
 intro H enc w fuel cs x h;obtain⟨n,rfl,_,hw⟩:=DataW.trod_int hu h;refine⟨n,rfl,?_⟩;simp[Lit.wf,IntKind.min,IntKind.max,IntKind.signed,IntKind.bits]at hw;exact⟨AGn,AGn⟩
theorem AfM{P:Program}{T:TypeId}(hu:P.underlying T=some (.int .u8)):MU P T Rv:=by
 intro H enc w fuel cs x h;obtain⟨n,rfl,_,hw⟩:=DataW.trod_int hu h;simp[Lit.wf,IntKind.min,IntKind.max,IntKind.signed,IntKind.bits]at hw;refine⟨UInt8.ofNat n.toNat,?_,trivial⟩;show[Value.int .u8 n]=[Value.int .u8 ((UInt8.ofNat n.toNat).toNat:Int)];have:((UInt8.ofNat n.toNat).toNat:Int)=n:=by
  have:(UInt8.ofNat n.toNat).toNat=n.toNat:=(by simp;omega);rw[this];omega
 rw[this]
theorem AfO{P:Program}{T:TypeId}(hu:P.underlying T=some .string):MU P T Nl:=by
 intro H enc w fuel cs x h;obtain⟨s,rfl,_,hs⟩:=DataW.trod_string hu h;exact⟨s,rfl,by simpa only[maxLen]using hs⟩
theorem AfL{P:Program}{T:TypeId}(hu:P.underlying T=some .bool):MU P T cr:=by
 intro H enc w fuel cs x h;obtain⟨b,rfl,_⟩:=DataW.trod_bool hu h;exact⟨b,rfl,trivial⟩
theorem nT{w:World}{a:Addr}{n:Nat}{cs:List Value}(h:w.cells? 0 a n=some cs):cs.length=n/\∀j u,cs[j]? =some u->w.cell? (a.add j)=some u:=by
 unfold World.cells? at h;rw[AA_ (ABg _)]at h;have AN:cs.length=n:=by simpa using mapM_some_length h
 refine⟨AN,fun j u hu=>?_⟩;have Ay:j<n:=by rw[<-AN];exact(ABF.1 hu).1
 have Bm:=mapM_some_get h j j (by simp[Ay]);rw[hu]at Bm;exact Bm
theorem rV{P:Program}{T E:TypeId}{α:Type}{r:Be α}(hu:P.underlying T=some (.slice E))(hs:P.cellsOf E=r.size)(Bw:0<r.size)(Ge:MU P E r):MU P T (@FI α r):=by
 intro H enc w fuel cs x h;rcases Deep.open_slice hu h with⟨rfl,_⟩|⟨a,len,cap,m,n,D,wj,rfl,_,pJ,Wp,hm,_,Ag⟩
 · exact⟨[],none,0,rfl,ABW _,AGp,ABg _,fun h=>absurd rfl h⟩
 · have Anx:len<=m:=(by rw[hm];split<;>omega);have key:∀i,i<len->∃e:α,∃KH,w.cells? 0 (a.add (i*P.cellsOf E)) (P.cellsOf E)=some KH/\r.rd (fun b=>b<w.heap.size) w KH e:=by
    intro i C_;obtain⟨KH,Af,h2⟩:=Ag i AGn;obtain⟨e,he⟩:=Ge H enc w n KH _ h2;exact⟨e,KH,Af,he⟩
   have:∃xs:List α,xs.length=len/\∀i e,xs[i]? =some e->∃KH,w.cells? 0 (a.add (i*P.cellsOf E)) (P.cellsOf E)=some KH/\r.rd (fun b=>b<w.heap.size) w KH e:=by
    have gen:∀k,(∀i,i<k->∃e:α,∃KH,w.cells? 0 (a.add (i*P.cellsOf E)) (P.cellsOf E)=some KH/\r.rd (fun b=>b<w.heap.size) w KH e)->∃xs:List α,xs.length=k/\∀i e,xs[i]? =some e->∃KH,w.cells? 0 (a.add (i*P.cellsOf E)) (P.cellsOf E)=some KH/\r.rd (fun b=>b<w.heap.size) w KH e:=by
     intro k key;induction k with
     |zero=>exact⟨[],rfl,by simp⟩
     |succ k Cg=>
      obtain⟨xs,Af,h2⟩:=Cg fun i C_=>key i AGn;obtain⟨e,he⟩:=key k AGn;refine⟨xs++[e],by simp[Af],fun i IV Ag=>?_⟩;rw[List.getElem?_append]at Ag;split at Ag
      · exact h2 i IV Ag
      · rename_i aX;have:i=k:=by
         have:=(ABF.1 Ag).1;simp at this;omega
        subst this;simp[Af]at Ag;subst Ag;exact he
    exact gen len key
   obtain⟨xs,Sg,Ab⟩:=this;subst Sg;refine⟨xs,some a,cap,rfl,pJ,by simpa only[maxLen]using Wp,by simp only[maxLen]at Wp;omega,fun FG=>?_⟩;have WA:0<xs.length:=List.length_pos_iff.2 FG;obtain⟨KH,Af,h2⟩:=Ab 0 xs[0] (ABs WA);obtain⟨Qa,PB⟩:=nT Af;have Rd:=PB 0 KH[0] (ABs AGn);have WE:=World.cell?_spot Rd;obtain⟨b,o,spot⟩:=a;have Acg:spot=none:=(by simpa[Addr.add]using WE);subst Acg;have Aq:b<w.heap.size:=by
    unfold World.cell? at Rd;simp only[Addr.add]at Rd;split at Rd
    · rename_i hh;exact TD (by simpa using hh)
    · cases Rd
   refine⟨b,o,rfl,Aq,fun i e he=>?_⟩;obtain⟨yp,Hj,G1⟩:=Ab i e he;refine⟨yp,G1,fun j u hu=>?_⟩;have:=(nT Hj).2 j u hu;rw[hs,ACm,ACm]at this;exact this
open Go.ChangeShapes Go.WideShapes Go.RowKit
theorem l0{P:Program}{H:Type}{enc:TypeId×Value->H}{w:World}{fuel:Nat}{T:TypeId}{B1:Array Field}{cs:List Value}{x:DataW H×List MemPlace}
 (hu:P.underlying T=some (.struct B1))(h:DataW.trod enc P w 0 (fun _=>true) true fuel T cs=some x):cs.length=P.cellsOf T:=by
 obtain⟨xs,m,_,_,AN,_,_⟩:=DataW.trod_struct hu h;exact AN
theorem Js{P:Program}{H:Type}{enc:TypeId×Value->H}{w:World}{fuel:Nat}{T:TypeId}{B1:Array Field}{cs:List Value}{x:DataW H×List MemPlace}
 (hu:P.underlying T=some (.struct B1))(h:DataW.trod enc P w 0 (fun _=>true) true fuel T cs=some x){α:Type}{r:Be α}(i o n:Nat){hb:TypeId}
 (BI:B1[i]?.map (fun f=>(f.type,f.offset))=some (hb,o))(Ao:P.cellsOf hb=n)(Aa2:MU P hb r):∃a:α,r.rd (fun b=>b<w.heap.size) w ((cs.drop o).take n) a:=by
 obtain⟨xs,m,_,_,_,hlen,Ab⟩:=DataW.trod_struct hu h;cases PA:B1[i]? with
 |none=>rw[PA]at BI;cases BI
 |some f=>
  rw[PA]at BI;simp only[Option.map_some,ABX,ACg]at BI;obtain⟨rfl,rfl⟩:=BI;subst Ao;have Ag:i<xs.length:=(by rw[hlen];exact(AC_.1 PA).1);have:=Ab i f PA;rw[ABs Ag]at this;exact Aa2 H enc w m _ _ this
theorem w8{P:Program}{H:Type}{enc:TypeId×Value->H}{w:World}{T E:TypeId}{α:Type}{r:Be α}{v:Value}{d:DataW H}{ps:List MemPlace}{rc:Reach}{base:Nat}
 (hu:P.underlying T=some (.slice E))(Dk:MU P T (@FI α r))(BC:Value.okWide P w rc base T v)(h:DataW.Trod enc P w 0 (fun _=>true) true T v d ps):
 ∃l:List α,Atom.holds (@Atom.mk (List α) (@FI α r) v l) (Et [] w) w:=by
 obtain⟨fuel,BI⟩:=h;obtain⟨A,n,c,rfl⟩:=okWide_slice hu BC;obtain⟨l,AN⟩:=Dk H enc w fuel _ _ BI;refine⟨l,rfl,?_⟩;exact Be.DY (self:=@FI α r) AN (fun b Aq=>⟨Aq,by simp⟩) (fun _ _=>rfl)
theorem t'{H:Type}{enc:TypeId×Value->H}{P:Program}(AN:laidOutB P=true){W SY:World}(Ew:Below W.heap.size W SY):
 ∀(Zn:List TypeId) (vs:List Value) (Cx:List (DataW H)) (ps:List MemPlace),Zn.all (fun t=>P.readableRec t&&decide (t<P.types.size))=true->
  DataW.TrodAll enc P W 0 (fun _=>true) true Zn vs Cx ps->(∀x∈ps,x.block<W.heap.size)->DataW.TrodAll enc P SY 0 (fun b=>decide (b<W.heap.size)) true Zn vs Cx ps
 |[],vs,Cx,ps,_,h,_=>by
  obtain⟨rfl,rfl,rfl⟩:=trodAll_nil h;exact trodAll_mk0
 |t::Zn,vs,Cx,ps,Bh,h,C_=>by
  obtain⟨v,cV,d,ox,p,q,rfl,rfl,rfl,Af,h2⟩:=trodAll_cons h;simp only[ABn,ABb,ABa]at Bh;exact trodAll_cons_mk (Below.trod AN Bh.1.1 Bh.1.2 Af Ew (fun x Ab=>C_ x (AC9 _ Ab))) (t' AN Ew Zn cV ox q Bh.2 h2 (fun x Ab=>C_ x (List.mem_append_right _ Ab)))
theorem AhA{H:Type}{enc:TypeId×Value->H}{P:Program}{f:Func}{s:ChangeSpec}{W SY:World}{args:Array Value}{Cx:List (DataW H)}{before:List MemPlace}{T:TypeId}(AN:laidOutB P=true)
 (AH:f.params.toList.all (fun t=>P.readableRec t&&decide (t<P.types.size))=true)(EX:s.vars=[])(Bh:f.resultTypes= #[T])(LY:P.underlying T=some .bool)
 (Ko:s.fn H Cx={results:=[.lit (.bool true)],args:=Cx})(F5:DataW.Whole enc P f.params.toList s.vars false W args.toList Cx [] before)(Ew:Below W.heap.size W SY):
 s.post enc P f false true false false W args (.bool true) SY:=by
 have C_:∀x∈before,x.block<W.heap.size:=fun x Ab=>by simpa using F5.lt x Ab
 have iV:=F5;obtain⟨p,q,Cl,LC,rfl,AbI,OZ⟩:=iV;rw[EX]at LC;obtain⟨_,rfl⟩:=trodVars_none LC;refine⟨Cx,[],_,[],p,[],F5,?_,?_,?_,Ew.frame _,fun h=>by cases h⟩
 · rw[AB7,Ko,Bh];exact trodAll_mk1 (shut_bool LY true)
 · rw[AB7,Ko];exact t' AN Ew _ _ _ _ AH Cl (fun x Ab=>C_ x (AC9 _ Ab))
 · rw[AB7,Ko,EX];rfl
theorem Cv.post{H:Type}{enc:TypeId×Value->H}{P:Program}{f:FuncId}{fn:Func}{s:ChangeSpec}{W:World}{args:List Value}{DB:List Atom}{Cx:List (DataW H)}{before:List MemPlace}{T:TypeId}(AN:laidOutB P=true)
 (AH:fn.params.toList.all (fun t=>P.readableRec t&&decide (t<P.types.size))=true)(EX:s.vars=[])(Bh:fn.resultTypes= #[T])(LY:P.underlying T=some .bool)
 (Ko:s.fn H Cx={results:=[.lit (.bool true)],args:=Cx})(F5:DataW.Whole enc P fn.params.toList s.vars false W args Cx [] before)
 (h:Cv P f args DB (.bool true))(Cl:∀t∈DB,t.holds (Et [] W) W):
 Calls P f args.toArray W fun e SY=>∃v,e=.returned v/\s.post enc P fn false true false false W args.toArray v SY:=by
 refine QK.mono (h [] W (by simp[Own.J,Dt]) (by simp) (by simp) (by simpa[Own.J,Dt]using Cl)) ?_;rintro v AT ⟨Gg,_,rfl,_⟩;exact AhA AN AH EX Bh LY Ko (by simpa using F5) Gg.below
section
def AwH(P:Program)(s:TypeId)(i off:Nat):Prop:=∃B1 f d,P.underlying s=some (.struct B1)/\B1[i]? =some f/\f.offset=off/\P.underlying f.type=some d/\d.isRow=false
section
variable{c:Cj} {ops:Array Oper} {AP:Cj->Array Oper->List Oper->Env->Own->List Atom->Prop} [Dr:Ip AP] {env:Env} {L:Own} {D:List Atom} {rest:List Oper} {d:Nat} {v:Value} {t:TypeId} {p:String} {af:Array Edge}
theorem fd{s:TypeId}{j off:Nat}{x:Operand}{vs:Array Value}{u:Value}(Ab:AL env x=some (.agg vs))(BI:AwH c.P s j off)(BC:vs[off]? =some u)(Ao:Nat.blt d c.n=true)(k:AP c ops rest ((d,u)::env) L D):
 AP c ops (⟨some d,.field s x j,t,p,af,none⟩::rest) env L D:=
 pu rfl rfl Ao (fun a w f=>by
  obtain⟨B1,q,Ayd,Af,h2,rfl,BB,C'⟩:=BI;cases Ayd<;>simp[TypeDesc.isRow]at C'<;>simp[execOp,f.AL Ab,Instr.field,ABQ Af,h2,part,isAgg,asAgg,ABQ BB,BC]) k
end
theorem O7{α:Type}{s:Shape α}{S:Nat->Prop}{w:World}{v:Value}{xs:List α}(h:Atom.holds (@Atom.mk (List α) (@FI α (Be.D5 s)) v xs) S w):∀x∈xs,s.wf x:=by
 intro x Ab;obtain⟨AK,A,Dc,EX,_,_,Bo,BB⟩:=h;obtain⟨b,o,_,_,Ag⟩:=BB (List.ne_nil_of_mem Ab);obtain⟨i,Jf,rfl⟩:=List.getElem_of_mem Ab;obtain⟨cs,Bm,_⟩:=Ag i _ (ABs Jf);obtain⟨_,_,_,hw⟩:=Bm;exact hw
theorem Hl{α:Type}[Inhabited α]{l:List α}{i:Nat}(h:i<l.length):l.getD i default∈l:=by
 have:l.getD i default=l[i]:=by simp[List.getD,ABs h]
 rw[this];exact ACF h
end
open Go.ChangeShapes Go.WideShapes Go.RowKit
theorem Jp{α:Type}(cs:List α)(o n m:Nat)(h:o+n=m):cs.drop o=(cs.drop o).take n++cs.drop m:=by
 subst h;rw[<-List.drop_drop,List.take_append_drop]
theorem AdR{α:Type}[r:Be α]{S:Nat->Prop}{w:World}{cs:List Value}{l:List α}(h:(@FI α r).rd S w cs l):∃k,cs=[k]/\Atom.holds ⟨k,l⟩ S w:=by
 obtain⟨A,Dc,I0,Bh⟩:=id h;refine⟨_,I0,rfl,?_⟩;subst I0;exact⟨A,Dc,rfl,Bh⟩
theorem Aqn{P:Program}{H:Type}{enc:TypeId×Value->H}{w:World}{T:TypeId}{B1:Array Field}{α:Type}{r:Be α}{v:Value}{d:DataW H}{ps:List MemPlace}{rc:Reach}{base:Nat}
 (hu:P.underlying T=some (.struct B1))(Dk:MU P T r)(BC:Value.okWide P w rc base T v)(h:DataW.Trod enc P w 0 (fun _=>true) true T v d ps):
 ∃(cs:List Value) (x:α),v=.agg cs.toArray/\r.rd (Et [] w) w cs x:=by
 obtain⟨fuel,BI⟩:=h;obtain⟨cs,rfl,_⟩:=okWide_struct hu BC;obtain⟨x,Ab⟩:=Dk H enc w fuel _ _ BI;exact⟨cs.toList,x,by simp,Be.DY (self:=r) Ab (fun b Aq=>⟨Aq,by simp⟩) (fun _ _=>rfl)⟩
end Go.A_
namespace Go.Apw
@[reducible] noncomputable def AG:Program:=Tryz.prog
instance:J7 Tryz.prog where
 B1:=[(28,[0,1,2,3,4,5,6]),(31,[0,1,2,3,4,5,6,7,8,9,10,11,18,25,26,27,28]),(33,[0,1,2,3,4,5]),(35,[0,1,2,3,4,5,6,7,8,9,10,11,17,24]),(44,[0,1,2,3]),(50,[0,1,2,3,4,5]),(52,[0,1,2,3,4,5,6,7]),(54,[0,1,2,3]),(68,[0,1]),(71,[0,1,2,3]),(73,[0,1,3,4,5,6]),(83,[0,1,2,3]),(85,[0,1,3]),(96,[0,29,30,31,32]),(107,[0,1,2]),(125,[0,1]),(138,[0,1]),(164,[0,1]),(192,[0,1,2]),(281,[0,1,2,3]),(337,[0,1,2])]
 os:=[2,3,4,5,9,22,23,24,25,26,29,37,39,56,69,93,94,105,136,171,175,278]
 rs:=[(28,7),(31,29),(33,6),(35,25),(44,4),(46,7),(50,11),(52,8),(54,7),(68,2),(71,4),(73,10),(83,4),(85,4),(125,2),(138,2),(164,2)]
 okF:=⟨⟨_,AC4,AGo⟩,⟨_,ACb,AGo⟩,⟨_,ACR,AGo⟩,⟨_,ACE,AGo⟩,⟨_,AC5,AGo⟩,⟨_,ADa,AGo⟩,⟨_,AC0,AGo⟩,⟨_,ADk,AGo⟩,⟨_,ADC,AGo⟩,⟨_,ADl,AGo⟩,⟨_,ADg,AGo⟩,⟨_,ADm,AGo⟩,⟨_,Tryz.underlying85,AGo⟩,⟨_,Tryz.underlying96,AGo⟩,⟨_,Tryz.underlying107,AGo⟩,⟨_,ADB,AGo⟩,⟨_,Tryz.underlying138,AGo⟩,⟨_,Tryz.underlying164,AGo⟩,⟨_,Tryz.underlying192,AGo⟩,⟨_,Tryz.underlying281,AGo⟩,⟨_,Tryz.underlying337,AGo⟩,trivial⟩
 Qq:=⟨⟨⟨_,Tryz.underlying2,rfl⟩,AGo⟩,⟨⟨_,ABc,rfl⟩,AGo⟩,⟨⟨_,Tryz.underlying4,rfl⟩,AGo⟩,⟨⟨_,Tryz.underlying5,rfl⟩,AGo⟩,⟨⟨_,ABO,rfl⟩,AGo⟩,⟨⟨_,ABH,rfl⟩,AGo⟩,⟨⟨_,ACh,rfl⟩,AGo⟩,⟨⟨_,AB4,rfl⟩,AGo⟩,⟨⟨_,ACa,rfl⟩,AGo⟩,⟨⟨_,ACi,rfl⟩,AGo⟩,⟨⟨_,ABT,rfl⟩,AGo⟩,⟨⟨_,Tryz.underlying37,rfl⟩,AGo⟩,⟨⟨_,Tryz.underlying39,rfl⟩,AGo⟩,⟨⟨_,Tryz.underlying56,rfl⟩,AGo⟩,⟨⟨_,AB5,rfl⟩,AGo⟩,⟨⟨_,Tryz.underlying93,rfl⟩,AGo⟩,⟨⟨_,Tryz.underlying94,rfl⟩,AGo⟩,⟨⟨_,Tryz.underlying105,rfl⟩,AGo⟩,⟨⟨_,ABJ,rfl⟩,AGo⟩,⟨⟨_,Tryz.underlying171,rfl⟩,AGo⟩,⟨⟨_,Tryz.underlying175,rfl⟩,AGo⟩,⟨⟨_,Tryz.underlying278,rfl⟩,AGo⟩,trivial⟩
 b0:=⟨⟨⟨_,AC4,rfl⟩,AGo⟩,⟨⟨_,ACb,rfl⟩,AGo⟩,⟨⟨_,ACR,rfl⟩,AGo⟩,⟨⟨_,ACE,rfl⟩,AGo⟩,⟨⟨_,AC5,rfl⟩,AGo⟩,⟨⟨_,Tryz.underlying46,rfl⟩,AGo⟩,⟨⟨_,ADa,rfl⟩,AGo⟩,⟨⟨_,AC0,rfl⟩,AGo⟩,⟨⟨_,ADk,rfl⟩,AGo⟩,⟨⟨_,ADC,rfl⟩,AGo⟩,⟨⟨_,ADl,rfl⟩,AGo⟩,⟨⟨_,ADg,rfl⟩,AGo⟩,⟨⟨_,ADm,rfl⟩,AGo⟩,⟨⟨_,Tryz.underlying85,rfl⟩,AGo⟩,⟨⟨_,ADB,rfl⟩,AGo⟩,⟨⟨_,Tryz.underlying138,rfl⟩,AGo⟩,⟨⟨_,Tryz.underlying164,rfl⟩,AGo⟩,trivial⟩
 fq:=AGo
theorem BR{s i off:Nat}(h:aD (J7.B1 Tryz.prog) s i=some off):QD Tryz.prog s i off:=ic J7.okF h
theorem A2{s:Nat}(h:A7 (J7.os Tryz.prog) s=true):Nv Tryz.prog s:=a9 J7.Qq h
theorem At{s n:Nat}(h:ro (J7.rs Tryz.prog) s=some n):Oc Tryz.prog s n:=fR J7.b0 h
def j0:Nat:=803078517015132848609006656628684619475599325612989664191764100877620508536129553526571477171712
def qN(P:Program)(f:Nat):Bool:=match P.funcs[f]? with
 |some fn=> !(fn.name== "runtime.NumGoroutine")&& !fn.body.isNone
 |none=>false
theorem Ac_:(List.range 319).all (fun f=>Nat.beq (Nat.land (Nat.shiftRight j0 f) 1) 0||qN Tryz.prog f)=true:=AGo
theorem Ar{f:Nat}(h:(Nat.blt f 319&&Nat.beq (Nat.land (Nat.shiftRight j0 f) 1) 1)=true):GU Tryz.prog f:=by
 rw[ABb]at h;have h2:=ABq.1 Ac_ f (ABw.2 (EU h.1));rw[show Nat.land (Nat.shiftRight j0 f) 1=1 from ACI h.2,show Nat.beq 1 0=false from rfl,Bool.false_or,qN]at h2;split at h2
 · rename_i fn e;simp only[ABb,ABe]at h2;exact⟨⟨fn,e,h2.1,h2.2⟩⟩
 · cases h2
end Go.Apw
