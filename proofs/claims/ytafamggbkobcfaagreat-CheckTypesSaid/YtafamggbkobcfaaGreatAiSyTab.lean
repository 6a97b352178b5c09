/- A part of the proof of the statement CheckTypes. -/
import Derived.Test.YtafamggbkobcfaaGreatAiEnv
import Derived.Test.YtafamggbkobcfaaGreatAiKnown
namespace Go.Proofs.YtafamggbkobcfaaGreat.Ae
open Go.AE Go.RowKit
set_option maxRecDepth 1000000
set_option linter.unusedVariables false
def d1:bH:=⟨(.func #[] #[] false),1,8,false,some [.nilFunc],.nilFunc⟩
def d2:bH:=⟨(.int .i64),1,8,false,some [(.int .i64 0)],(.int .i64 0)⟩
def d3:bH:=⟨(.int .i64),1,8,false,some [(.int .i64 0)],(.int .i64 0)⟩
def d4:bH:=⟨.bool,1,1,false,some [(.bool false)],(.bool false)⟩
def d5:bH:=⟨(.int .u8),1,1,false,some [(.int .u8 0)],(.int .u8 0)⟩
def d6:bH:=⟨(.int .u8),1,1,false,some [(.int .u8 0)],(.int .u8 0)⟩
def d7:bH:=⟨(.struct #[⟨ "x",2,0,false,"","runtime",0⟩,⟨ "y",3,1,false,"","runtime",8⟩,⟨ "signed",4,2,false,"","runtime",16⟩,⟨ "code",6,3,false,"","runtime",17⟩]),4,24,true,some [(.int .i64 0),(.int .i64 0),(.bool false),(.int .u8 0)],(.agg [(.int .i64 0),(.int .i64 0),(.bool false),(.int .u8 0)])⟩
def d8:bH:=⟨(.struct #[⟨ "x",2,0,false,"","runtime",0⟩,⟨ "y",3,1,false,"","runtime",8⟩,⟨ "signed",4,2,false,"","runtime",16⟩,⟨ "code",6,3,false,"","runtime",17⟩]),4,24,true,some [(.int .i64 0),(.int .i64 0),(.bool false),(.int .u8 0)],(.agg [(.int .i64 0),(.int .i64 0),(.bool false),(.int .u8 0)])⟩
def d9:bH:=⟨.string,1,16,false,some [(.str [])],(.str [])⟩
def d10:bH:=⟨.string,1,16,false,some [(.str [])],(.str [])⟩
def d11:bH:=⟨.string,1,16,false,some [(.str [])],(.str [])⟩
def d12:bH:=⟨(.int .u64),1,8,false,some [(.int .u64 0)],(.int .u64 0)⟩
def d13:bH:=⟨(.struct #[⟨ "msg",9,0,false,"","runtime",0⟩,⟨ "addr",12,1,false,"","runtime",16⟩]),2,24,true,some [(.str []),(.int .u64 0)],(.agg [(.str []),(.int .u64 0)])⟩
def d14:bH:=⟨(.struct #[⟨ "msg",9,0,false,"","runtime",0⟩,⟨ "addr",12,1,false,"","runtime",16⟩]),2,24,true,some [(.str []),(.int .u64 0)],(.agg [(.str []),(.int .u64 0)])⟩
def d15:bH:=⟨(.pointer 135),1,8,false,some [.bJ],.bJ⟩
def d16:bH:=⟨(.pointer 138),1,8,false,some [.bJ],.bJ⟩
def d17:bH:=⟨(.pointer 148),1,8,false,some [.bJ],.bJ⟩
def d18:bH:=⟨(.struct #[⟨ "typ",17,0,false,"","internal/runtime/maps",0⟩]),1,8,true,some [.bJ],(.agg [.bJ])⟩
def d19:bH:=⟨(.struct #[⟨ "typ",17,0,false,"","internal/runtime/maps",0⟩]),1,8,true,some [.bJ],(.agg [.bJ])⟩
def d21:bH:=⟨(.int .i32),1,4,false,some [(.int .i32 0)],(.int .i32 0)⟩
def d22:bH:=⟨(.func #[] #[4] false),1,8,false,some [.nilFunc],.nilFunc⟩
def d23:bH:=⟨(.complex .f64),1,16,false,some [(.dh .f64 0 0)],(.dh .f64 0 0)⟩
def d24:bH:=⟨(.slice 26),1,24,false,some [.aj],.aj⟩
def d25:bH:=⟨(.struct #[⟨ "Kind",3,0,false,"","",0⟩,⟨ "At",3,1,false,"","",8⟩,⟨ "Text",9,2,false,"","",16⟩,⟨ "Int",2,3,false,"","",32⟩,⟨ "Cplx",23,4,false,"","",40⟩,⟨ "Kids",24,5,false,"","",56⟩]),6,80,true,some [(.int .i64 0),(.int .i64 0),(.str []),(.int .i64 0),(.dh .f64 0 0),.aj],(.agg [(.int .i64 0),(.int .i64 0),(.str []),(.int .i64 0),(.dh .f64 0 0),.aj])⟩
def d26:bH:=⟨(.struct #[⟨ "Kind",3,0,false,"","",0⟩,⟨ "At",3,1,false,"","",8⟩,⟨ "Text",9,2,false,"","",16⟩,⟨ "Int",2,3,false,"","",32⟩,⟨ "Cplx",23,4,false,"","",40⟩,⟨ "Kids",24,5,false,"","",56⟩]),6,80,true,some [(.int .i64 0),(.int .i64 0),(.str []),(.int .i64 0),(.dh .f64 0 0),.aj],(.agg [(.int .i64 0),(.int .i64 0),(.str []),(.int .i64 0),(.dh .f64 0 0),.aj])⟩
def d28:bH:=⟨(.func #[9] #[26,3,3] false),1,8,false,some [.nilFunc],.nilFunc⟩
def d29:bH:=⟨(.struct #[⟨ "Kind",3,0,false,"","",0⟩,⟨ "Class",9,1,false,"","",8⟩]),2,24,true,some [(.int .i64 0),(.str [])],(.agg [(.int .i64 0),(.str [])])⟩
def d30:bH:=⟨(.struct #[⟨ "Kind",3,0,false,"","",0⟩,⟨ "Class",9,1,false,"","",8⟩]),2,24,true,some [(.int .i64 0),(.str [])],(.agg [(.int .i64 0),(.str [])])⟩
def d31:bH:=⟨(.int .i64),1,8,false,some [(.int .i64 0)],(.int .i64 0)⟩
def d33:bH:=⟨(.func #[26,9,9,26] #[30,31] false),1,8,false,some [.nilFunc],.nilFunc⟩
def d34:bH:=⟨(.pointer 41),1,8,false,some [.bJ],.bJ⟩
def d35:bH:=⟨(.func #[26] #[34] false),1,8,false,some [.nilFunc],.nilFunc⟩
def d37:bH:=⟨(.func #[9] #[26,4] false),1,8,false,some [.nilFunc],.nilFunc⟩
def d38:bH:=⟨(.pointer 104),1,8,false,some [.bJ],.bJ⟩
def d39:bH:=⟨(.slice 72),1,24,false,some [.aj],.aj⟩
def d40:bH:=⟨(.struct #[⟨ "N",26,0,false,"","",0⟩,⟨ "H",38,6,false,"","",80⟩,⟨ "Bad",4,7,false,"","",88⟩,⟨ "At",3,8,false,"","",96⟩,⟨ "class",9,9,false,"","loom/loomref20",104⟩,⟨ "method",26,10,false,"","loom/loomref20",120⟩,⟨ "vars",39,16,false,"","loom/loomref20",200⟩,⟨ "locks",3,17,false,"","loom/loomref20",224⟩]),18,232,true,some [(.int .i64 0),(.int .i64 0),(.str []),(.int .i64 0),(.dh .f64 0 0),.aj,.bJ,(.bool false),(.int .i64 0),(.str []),(.int .i64 0),(.int .i64 0),(.str []),(.int .i64 0),(.dh .f64 0 0),.aj,.aj,(.int .i64 0)],(.agg [(.int .i64 0),(.int .i64 0),(.str []),(.int .i64 0),(.dh .f64 0 0),.aj,.bJ,(.bool false),(.int .i64 0),(.str []),(.int .i64 0),(.int .i64 0),(.str []),(.int .i64 0),(.dh .f64 0 0),.aj,.aj,(.int .i64 0)])⟩
def d41:bH:=⟨(.struct #[⟨ "N",26,0,false,"","",0⟩,⟨ "H",38,6,false,"","",80⟩,⟨ "Bad",4,7,false,"","",88⟩,⟨ "At",3,8,false,"","",96⟩,⟨ "class",9,9,false,"","loom/loomref20",104⟩,⟨ "method",26,10,false,"","loom/loomref20",120⟩,⟨ "vars",39,16,false,"","loom/loomref20",200⟩,⟨ "locks",3,17,false,"","loom/loomref20",224⟩]),18,232,true,some [(.int .i64 0),(.int .i64 0),(.str []),(.int .i64 0),(.dh .f64 0 0),.aj,.bJ,(.bool false),(.int .i64 0),(.str []),(.int .i64 0),(.int .i64 0),(.str []),(.int .i64 0),(.dh .f64 0 0),.aj,.aj,(.int .i64 0)],(.agg [(.int .i64 0),(.int .i64 0),(.str []),(.int .i64 0),(.dh .f64 0 0),.aj,.bJ,(.bool false),(.int .i64 0),(.str []),(.int .i64 0),(.int .i64 0),(.str []),(.int .i64 0),(.dh .f64 0 0),.aj,.aj,(.int .i64 0)])⟩
def d42:bH:=⟨(.func #[9,26] #[] false),1,8,false,some [.nilFunc],.nilFunc⟩
def d43:bH:=⟨(.func #[26] #[30] false),1,8,false,some [.nilFunc],.nilFunc⟩
def d44:bH:=⟨(.func #[9,9,9,9] #[4] false),1,8,false,some [.nilFunc],.nilFunc⟩
def d46:bH:=⟨(.func #[26] #[3,31] false),1,8,false,some [.nilFunc],.nilFunc⟩
def d47:bH:=⟨(.slice 55),1,24,false,some [.aj],.aj⟩
def d49:bH:=⟨(.func #[9] #[47,3,3] false),1,8,false,some [.nilFunc],.nilFunc⟩
def d50:bH:=⟨(.pointer 52),1,8,false,some [.bJ],.bJ⟩
def d51:bH:=⟨(.struct #[⟨ "l",47,0,false,"","loom/loomref19",0⟩,⟨ "at",3,1,false,"","loom/loomref19",24⟩,⟨ "deep",3,2,false,"","loom/loomref19",32⟩,⟨ "bad",4,3,false,"","loom/loomref19",40⟩]),4,48,true,some [.aj,(.int .i64 0),(.int .i64 0),(.bool false)],(.agg [.aj,(.int .i64 0),(.int .i64 0),(.bool false)])⟩
def d52:bH:=⟨(.struct #[⟨ "l",47,0,false,"","loom/loomref19",0⟩,⟨ "at",3,1,false,"","loom/loomref19",24⟩,⟨ "deep",3,2,false,"","loom/loomref19",32⟩,⟨ "bad",4,3,false,"","loom/loomref19",40⟩]),4,48,true,some [.aj,(.int .i64 0),(.int .i64 0),(.bool false)],(.agg [.aj,(.int .i64 0),(.int .i64 0),(.bool false)])⟩
def d53:bH:=⟨(.func #[] #[26] false),1,8,false,some [.nilFunc],.nilFunc⟩
def d54:bH:=⟨(.struct #[⟨ "Kind",3,0,false,"","",0⟩,⟨ "At",3,1,false,"","",8⟩,⟨ "Text",9,2,false,"","",16⟩,⟨ "Int",2,3,false,"","",32⟩,⟨ "Cplx",23,4,false,"","",40⟩]),5,56,true,some [(.int .i64 0),(.int .i64 0),(.str []),(.int .i64 0),(.dh .f64 0 0)],(.agg [(.int .i64 0),(.int .i64 0),(.str []),(.int .i64 0),(.dh .f64 0 0)])⟩
def d55:bH:=⟨(.struct #[⟨ "Kind",3,0,false,"","",0⟩,⟨ "At",3,1,false,"","",8⟩,⟨ "Text",9,2,false,"","",16⟩,⟨ "Int",2,3,false,"","",32⟩,⟨ "Cplx",23,4,false,"","",40⟩]),5,56,true,some [(.int .i64 0),(.int .i64 0),(.str []),(.int .i64 0),(.dh .f64 0 0)],(.agg [(.int .i64 0),(.int .i64 0),(.str []),(.int .i64 0),(.dh .f64 0 0)])⟩
def d56:bH:=⟨(.func #[] #[55] false),1,8,false,some [.nilFunc],.nilFunc⟩
def d57:bH:=⟨(.pointer 62),1,8,false,some [.bJ],.bJ⟩
def d58:bH:=⟨(.func #[26] #[57] false),1,8,false,some [.nilFunc],.nilFunc⟩
def d59:bH:=⟨(.pointer 125),1,8,false,some [.bJ],.bJ⟩
def d60:bH:=⟨(.pointer 79),1,8,false,some [.bJ],.bJ⟩
def d61:bH:=⟨(.struct #[⟨ "classes",24,0,false,"","loom/check",0⟩,⟨ "h",59,1,false,"","loom/check",24⟩,⟨ "e",60,2,false,"","loom/check",32⟩]),3,40,true,some [.aj,.bJ,.bJ],(.agg [.aj,.bJ,.bJ])⟩
def d62:bH:=⟨(.struct #[⟨ "classes",24,0,false,"","loom/check",0⟩,⟨ "h",59,1,false,"","loom/check",24⟩,⟨ "e",60,2,false,"","loom/check",32⟩]),3,40,true,some [.aj,.bJ,.bJ],(.agg [.aj,.bJ,.bJ])⟩
def d63:bH:=⟨(.func #[9,9,3] #[26,4] false),1,8,false,some [.nilFunc],.nilFunc⟩
def d64:bH:=⟨(.pointer 92),1,8,false,some [.bJ],.bJ⟩
def d65:bH:=⟨(.func #[9,26] #[64] false),1,8,false,some [.nilFunc],.nilFunc⟩
def d66:bH:=⟨(.func #[26] #[] false),1,8,false,some [.nilFunc],.nilFunc⟩
def d67:bH:=⟨(.func #[4,3] #[4] false),1,8,false,some [.nilFunc],.nilFunc⟩
def d68:bH:=⟨(.func #[26] #[4] false),1,8,false,some [.nilFunc],.nilFunc⟩
def d69:bH:=⟨(.func #[26] #[24] false),1,8,false,some [.nilFunc],.nilFunc⟩
def d70:bH:=⟨(.func #[9] #[30] false),1,8,false,some [.nilFunc],.nilFunc⟩
def d71:bH:=⟨(.struct #[⟨ "name",9,0,false,"","loom/loomref20",0⟩,⟨ "t",30,1,false,"","loom/loomref20",16⟩,⟨ "locked",4,3,false,"","loom/loomref20",40⟩]),4,48,true,some [(.str []),(.int .i64 0),(.str []),(.bool false)],(.agg [(.str []),(.int .i64 0),(.str []),(.bool false)])⟩
def d72:bH:=⟨(.struct #[⟨ "name",9,0,false,"","loom/loomref20",0⟩,⟨ "t",30,1,false,"","loom/loomref20",16⟩,⟨ "locked",4,3,false,"","loom/loomref20",40⟩]),4,48,true,some [(.str []),(.int .i64 0),(.str []),(.bool false)],(.agg [(.str []),(.int .i64 0),(.str []),(.bool false)])⟩
def d73:bH:=⟨(.func #[9] #[3] false),1,8,false,some [.nilFunc],.nilFunc⟩
def d74:bH:=⟨(.func #[26,4] #[30] false),1,8,false,some [.nilFunc],.nilFunc⟩
def d75:bH:=⟨(.func #[3] #[] false),1,8,false,some [.nilFunc],.nilFunc⟩
def d76:bH:=⟨(.array 2 30),4,48,true,some [(.int .i64 0),(.str []),(.int .i64 0),(.str [])],(.agg [(.int .i64 0),(.str []),(.int .i64 0),(.str [])])⟩
def d77:bH:=⟨(.func #[26,30,30] #[30] false),1,8,false,some [.nilFunc],.nilFunc⟩
def d78:bH:=⟨(.struct #[⟨ "at",3,0,false,"","loom/check",0⟩]),1,8,true,some [(.int .i64 0)],(.agg [(.int .i64 0)])⟩
def d79:bH:=⟨(.struct #[⟨ "at",3,0,false,"","loom/check",0⟩]),1,8,true,some [(.int .i64 0)],(.agg [(.int .i64 0)])⟩
def d80:bH:=⟨(.func #[5] #[4] false),1,8,false,some [.nilFunc],.nilFunc⟩
def d81:bH:=⟨(.func #[5,4] #[4] false),1,8,false,some [.nilFunc],.nilFunc⟩
def d82:bH:=⟨(.func #[9] #[4] false),1,8,false,some [.nilFunc],.nilFunc⟩
def d84:bH:=⟨(.func #[9,3] #[55,3,3] false),1,8,false,some [.nilFunc],.nilFunc⟩
def d85:bH:=⟨(.func #[9] #[9] false),1,8,false,some [.nilFunc],.nilFunc⟩
def d86:bH:=⟨(.func #[26,26] #[26] false),1,8,false,some [.nilFunc],.nilFunc⟩
def d87:bH:=⟨(.func #[3,9,26,26] #[26] false),1,8,false,some [.nilFunc],.nilFunc⟩
def d88:bH:=⟨(.array 2 66),2,16,true,some [.nilFunc,.nilFunc],(.agg [.nilFunc,.nilFunc])⟩
def d89:bH:=⟨(.slice 94),1,24,false,some [.aj],.aj⟩
def d90:bH:=⟨(.slice 9),1,24,false,some [.aj],.aj⟩
def d91:bH:=⟨(.struct #[⟨ "p",57,0,false,"","loom/check",0⟩,⟨ "class",9,1,false,"","loom/check",8⟩,⟨ "ret",30,2,false,"","loom/check",24⟩,⟨ "vars",89,4,false,"","loom/check",48⟩,⟨ "locks",90,5,false,"","loom/check",72⟩]),6,96,true,some [.bJ,(.str []),(.int .i64 0),(.str []),.aj,.aj],(.agg [.bJ,(.str []),(.int .i64 0),(.str []),.aj,.aj])⟩
def d92:bH:=⟨(.struct #[⟨ "p",57,0,false,"","loom/check",0⟩,⟨ "class",9,1,false,"","loom/check",8⟩,⟨ "ret",30,2,false,"","loom/check",24⟩,⟨ "vars",89,4,false,"","loom/check",48⟩,⟨ "locks",90,5,false,"","loom/check",72⟩]),6,96,true,some [.bJ,(.str []),(.int .i64 0),(.str []),.aj,.aj],(.agg [.bJ,(.str []),(.int .i64 0),(.str []),.aj,.aj])⟩
def d93:bH:=⟨(.struct #[⟨ "name",9,0,false,"","loom/check",0⟩,⟨ "t",30,1,false,"","loom/check",16⟩]),3,40,true,some [(.str []),(.int .i64 0),(.str [])],(.agg [(.str []),(.int .i64 0),(.str [])])⟩
def d94:bH:=⟨(.struct #[⟨ "name",9,0,false,"","loom/check",0⟩,⟨ "t",30,1,false,"","loom/check",16⟩]),3,40,true,some [(.str []),(.int .i64 0),(.str [])],(.agg [(.str []),(.int .i64 0),(.str [])])⟩
def d95:bH:=⟨(.func #[4,26] #[4] false),1,8,false,some [.nilFunc],.nilFunc⟩
def d97:bH:=⟨(.func #[90,90] #[38,3] false),1,8,false,some [.nilFunc],.nilFunc⟩
def d98:bH:=⟨(.func #[9] #[90] false),1,8,false,some [.nilFunc],.nilFunc⟩
def d99:bH:=⟨(.func #[26,26] #[4] false),1,8,false,some [.nilFunc],.nilFunc⟩
def d100:bH:=⟨(.func #[30,30] #[4] false),1,8,false,some [.nilFunc],.nilFunc⟩
def d101:bH:=⟨(.func #[30] #[4] false),1,8,false,some [.nilFunc],.nilFunc⟩
def d102:bH:=⟨(.slice 30),1,24,false,some [.aj],.aj⟩
def d103:bH:=⟨(.struct #[⟨ "Names",90,0,false,"","",0⟩,⟨ "Supers",90,1,false,"","",24⟩]),2,48,true,some [.aj,.aj],(.agg [.aj,.aj])⟩
def d104:bH:=⟨(.struct #[⟨ "Names",90,0,false,"","",0⟩,⟨ "Supers",90,1,false,"","",24⟩]),2,48,true,some [.aj,.aj],(.agg [.aj,.aj])⟩
def d105:bH:=⟨(.array 28 9),28,448,true,some [(.str []),(.str []),(.str []),(.str []),(.str []),(.str []),(.str []),(.str []),(.str []),(.str []),(.str []),(.str []),(.str []),(.str []),(.str []),(.str []),(.str []),(.str []),(.str []),(.str []),(.str []),(.str []),(.str []),(.str []),(.str []),(.str []),(.str []),(.str [])],(.agg [(.str []),(.str []),(.str []),(.str []),(.str []),(.str []),(.str []),(.str []),(.str []),(.str []),(.str []),(.str []),(.str []),(.str []),(.str []),(.str []),(.str []),(.str []),(.str []),(.str []),(.str []),(.str []),(.str []),(.str []),(.str []),(.str []),(.str []),(.str [])])⟩
def d106:bH:=⟨(.float .f64),1,8,false,some [(.float .f64 0)],(.float .f64 0)⟩
def d107:bH:=⟨(.func #[] #[9] false),1,8,false,some [.nilFunc],.nilFunc⟩
def d108:bH:=⟨(.func #[24,68] #[4] false),1,8,false,some [.nilFunc],.nilFunc⟩
def d109:bH:=⟨(.func #[90,9] #[4] false),1,8,false,some [.nilFunc],.nilFunc⟩
def d110:bH:=⟨(.func #[90,90,9] #[4] false),1,8,false,some [.nilFunc],.nilFunc⟩
def d112:bH:=⟨(.func #[90,90] #[59,31] false),1,8,false,some [.nilFunc],.nilFunc⟩
def d113:bH:=⟨(.array 2 3),2,16,true,some [(.int .i64 0),(.int .i64 0)],(.agg [(.int .i64 0),(.int .i64 0)])⟩
def d114:bH:=⟨(.func #[102,102] #[4] false),1,8,false,some [.nilFunc],.nilFunc⟩
def d115:bH:=⟨(.func #[24] #[102] false),1,8,false,some [.nilFunc],.nilFunc⟩
def d116:bH:=⟨(.func #[24,68] #[3] false),1,8,false,some [.nilFunc],.nilFunc⟩
def d117:bH:=⟨(.func #[3] #[30] false),1,8,false,some [.nilFunc],.nilFunc⟩
def d119:bH:=⟨(.func #[9] #[30,4] false),1,8,false,some [.nilFunc],.nilFunc⟩
def d120:bH:=⟨(.func #[9,9] #[4] false),1,8,false,some [.nilFunc],.nilFunc⟩
def d121:bH:=⟨(.func #[4] #[26] false),1,8,false,some [.nilFunc],.nilFunc⟩
def d122:bH:=⟨(.func #[90,9] #[3] false),1,8,false,some [.nilFunc],.nilFunc⟩
def d123:bH:=⟨(.map 9 9),1,8,false,some [.gC],.gC⟩
def d124:bH:=⟨(.struct #[⟨ "names",90,0,false,"","loom/types",0⟩,⟨ "super",123,1,false,"","loom/types",24⟩]),2,32,true,some [.aj,.gC],(.agg [.aj,.gC])⟩
def d125:bH:=⟨(.struct #[⟨ "names",90,0,false,"","loom/types",0⟩,⟨ "super",123,1,false,"","loom/types",24⟩]),2,32,true,some [.aj,.gC],(.agg [.aj,.gC])⟩
def d126:bH:=⟨(.func #[24] #[24] false),1,8,false,some [.nilFunc],.nilFunc⟩
def d127:bH:=⟨(.func #[1] #[] false),1,8,false,some [.nilFunc],.nilFunc⟩
def d129:bH:=⟨(.func #[26,30] #[30] false),1,8,false,some [.nilFunc],.nilFunc⟩
def d130:bH:=⟨(.func #[26,30] #[] false),1,8,false,some [.nilFunc],.nilFunc⟩
def d131:bH:=⟨(.func #[26] #[26] false),1,8,false,some [.nilFunc],.nilFunc⟩
def d132:bH:=⟨(.array 5 9),5,80,true,some [(.str []),(.str []),(.str []),(.str []),(.str [])],(.agg [(.str []),(.str []),(.str []),(.str []),(.str [])])⟩
def d133:bH:=⟨(.array 5 3),5,40,true,some [(.int .i64 0),(.int .i64 0),(.int .i64 0),(.int .i64 0),(.int .i64 0)],(.agg [(.int .i64 0),(.int .i64 0),(.int .i64 0),(.int .i64 0),(.int .i64 0)])⟩
def d134:bH:=⟨(.struct #[⟨ "_interface",17,0,false,"","runtime",0⟩,⟨ "concrete",17,1,false,"","runtime",8⟩,⟨ "asserted",17,2,false,"","runtime",16⟩,⟨ "missingMethod",9,3,false,"","runtime",24⟩]),4,40,true,some [.bJ,.bJ,.bJ,(.str [])],(.agg [.bJ,.bJ,.bJ,(.str [])])⟩
def d135:bH:=⟨(.struct #[⟨ "_interface",17,0,false,"","runtime",0⟩,⟨ "concrete",17,1,false,"","runtime",8⟩,⟨ "asserted",17,2,false,"","runtime",16⟩,⟨ "missingMethod",9,3,false,"","runtime",24⟩]),4,40,true,some [.bJ,.bJ,.bJ,(.str [])],(.agg [.bJ,.bJ,.bJ,(.str [])])⟩
def d136:bH:=⟨(.array 0 16),0,0,true,some [],(.agg [])⟩
def d137:bH:=⟨(.struct #[⟨ "_",136,0,false,"","runtime",0⟩]),0,0,true,some [],(.agg [])⟩
def d138:bH:=⟨(.struct #[⟨ "_",136,0,false,"","runtime",0⟩]),0,0,true,some [],(.agg [])⟩
def d139:bH:=⟨(.func #[] #[3] false),1,8,false,some [.nilFunc],.nilFunc⟩
def d140:bH:=⟨(.int .u32),1,4,false,some [(.int .u32 0)],(.int .u32 0)⟩
def d141:bH:=⟨(.int .u8),1,1,false,some [(.int .u8 0)],(.int .u8 0)⟩
def d142:bH:=⟨(.int .u8),1,1,false,some [(.int .u8 0)],(.int .u8 0)⟩
def d143:bH:=⟨(.func #[149,149] #[4] false),1,8,false,some [.nilFunc],.nilFunc⟩
def d144:bH:=⟨(.pointer 5),1,8,false,some [.bJ],.bJ⟩
def d145:bH:=⟨(.int .i32),1,4,false,some [(.int .i32 0)],(.int .i32 0)⟩
def d146:bH:=⟨(.int .i32),1,4,false,some [(.int .i32 0)],(.int .i32 0)⟩
def d147:bH:=⟨(.struct #[⟨ "Size_",12,0,false,"","",0⟩,⟨ "PtrBytes",12,1,false,"","",8⟩,⟨ "Hash",140,2,false,"","",16⟩,⟨ "TFlag",141,3,false,"","",20⟩,⟨ "Align_",5,4,false,"","",21⟩,⟨ "FieldAlign_",5,5,false,"","",22⟩,⟨ "Kind_",142,6,false,"","",23⟩,⟨ "Equal",143,7,false,"","",24⟩,⟨ "GCData",144,8,false,"","",32⟩,⟨ "Str",145,9,false,"","",40⟩,⟨ "PtrToThis",146,10,false,"","",44⟩]),11,48,true,some [(.int .u64 0),(.int .u64 0),(.int .u32 0),(.int .u8 0),(.int .u8 0),(.int .u8 0),(.int .u8 0),.nilFunc,.bJ,(.int .i32 0),(.int .i32 0)],(.agg [(.int .u64 0),(.int .u64 0),(.int .u32 0),(.int .u8 0),(.int .u8 0),(.int .u8 0),(.int .u8 0),.nilFunc,.bJ,(.int .i32 0),(.int .i32 0)])⟩
def d148:bH:=⟨(.struct #[⟨ "Size_",12,0,false,"","",0⟩,⟨ "PtrBytes",12,1,false,"","",8⟩,⟨ "Hash",140,2,false,"","",16⟩,⟨ "TFlag",141,3,false,"","",20⟩,⟨ "Align_",5,4,false,"","",21⟩,⟨ "FieldAlign_",5,5,false,"","",22⟩,⟨ "Kind_",142,6,false,"","",23⟩,⟨ "Equal",143,7,false,"","",24⟩,⟨ "GCData",144,8,false,"","",32⟩,⟨ "Str",145,9,false,"","",40⟩,⟨ "PtrToThis",146,10,false,"","",44⟩]),11,48,true,some [(.int .u64 0),(.int .u64 0),(.int .u32 0),(.int .u8 0),(.int .u8 0),(.int .u8 0),(.int .u8 0),.nilFunc,.bJ,(.int .i32 0),(.int .i32 0)],(.agg [(.int .u64 0),(.int .u64 0),(.int .u32 0),(.int .u8 0),(.int .u8 0),(.int .u8 0),(.int .u8 0),.nilFunc,.bJ,(.int .i32 0),(.int .i32 0)])⟩
noncomputable def tyT:Tr bH:=(.node (.node (.node (.node (.node (.node (.node (.node .nil (some d127) .nil) (some d63) .nil) (some d31) (.node .nil (some d95) .nil)) (some d15) (.node (.node (.node .nil (some d143) .nil) (some d79) .nil) (some d47) .nil)) (some d7) (.node (.node (.node (.node .nil (some d135) .nil) (some d71) .nil) (some d39) (.node .nil (some d103) .nil)) (some d23) (.node (.node .nil (some d87) .nil) (some d55) (.node .nil (some d119) .nil)))) (some d3) (.node (.node (.node (.node (.node .nil (some d131) .nil) (some d67) .nil) (some d35) (.node .nil (some d99) .nil)) (some d19) (.node (.node (.node .nil (some d147) .nil) none .nil) (some d51) (.node .nil (some d115) .nil))) (some d11) (.node (.node (.node (.node .nil (some d139) .nil) (some d75) .nil) (some d43) (.node .nil (some d107) .nil)) none (.node (.node .nil (some d91) .nil) (some d59) (.node .nil (some d123) .nil))))) (some d1) (.node (.node (.node (.node (.node (.node .nil (some d129) .nil) (some d65) .nil) (some d33) (.node .nil (some d97) .nil)) (some d17) (.node (.node (.node .nil (some d145) .nil) (some d81) .nil) (some d49) (.node .nil (some d113) .nil))) (some d9) (.node (.node (.node (.node .nil (some d137) .nil) (some d73) .nil) (some d41) (.node .nil (some d105) .nil)) (some d25) (.node (.node .nil (some d89) .nil) (some d57) (.node .nil (some d121) .nil)))) (some d5) (.node (.node (.node (.node (.node .nil (some d133) .nil) (some d69) .nil) (some d37) (.node .nil (some d101) .nil)) (some d21) (.node (.node .nil (some d85) .nil) (some d53) (.node .nil (some d117) .nil))) (some d13) (.node (.node (.node (.node .nil (some d141) .nil) (some d77) .nil) none (.node .nil (some d109) .nil)) (some d29) (.node (.node .nil (some d93) .nil) (some d61) (.node .nil (some d125) .nil)))))) none (.node (.node (.node (.node (.node (.node .nil (some d64) .nil) none .nil) (some d16) (.node (.node (.node .nil (some d144) .nil) (some d80) .nil) none (.node .nil (some d112) .nil))) (some d8) (.node (.node (.node (.node .nil (some d136) .nil) (some d72) .nil) (some d40) (.node .nil (some d104) .nil)) (some d24) (.node (.node .nil (some d88) .nil) (some d56) (.node .nil (some d120) .nil)))) (some d4) (.node (.node (.node (.node (.node .nil (some d132) .nil) (some d68) .nil) none (.node .nil (some d100) .nil)) none (.node (.node (.node .nil (some d148) .nil) (some d84) .nil) (some d52) (.node .nil (some d116) .nil))) (some d12) (.node (.node (.node (.node .nil (some d140) .nil) (some d76) .nil) (some d44) (.node .nil (some d108) .nil)) (some d28) (.node (.node .nil (some d92) .nil) (some d60) (.node .nil (some d124) .nil))))) (some d2) (.node (.node (.node (.node (.node (.node .nil (some d130) .nil) (some d66) .nil) (some d34) (.node .nil (some d98) .nil)) (some d18) (.node (.node (.node .nil (some d146) .nil) (some d82) .nil) (some d50) (.node .nil (some d114) .nil))) (some d10) (.node (.node (.node (.node .nil (some d138) .nil) (some d74) .nil) (some d42) (.node .nil (some d106) .nil)) (some d26) (.node (.node .nil (some d90) .nil) (some d58) (.node .nil (some d122) .nil)))) (some d6) (.node (.node (.node (.node (.node .nil (some d134) .nil) (some d70) .nil) (some d38) (.node .nil (some d102) .nil)) (some d22) (.node (.node .nil (some d86) .nil) (some d54) .nil)) (some d14) (.node (.node (.node (.node .nil (some d142) .nil) (some d78) .nil) (some d46) (.node .nil (some d110) .nil)) (some d30) (.node (.node .nil (some d94) .nil) (some d62) (.node .nil (some d126) .nil)))))))
def tyKeys:List Nat:=[1,2,3,4,5,6,7,8,9,10,11,12,13,14,15,16,17,18,19,21,22,23,24,25,26,28,29,30,31,33,34,35,37,38,39,40,41,42,43,44,46,47,49,50,51,52,53,54,55,56,57,58,59,60,61,62,63,64,65,66,67,68,69,70,71,72,73,74,75,76,77,78,79,80,81,82,84,85,86,87,88,89,90,91,92,93,94,95,97,98,99,100,101,102,103,104,105,106,107,108,109,110,112,113,114,115,116,117,119,120,121,122,123,124,125,126,127,129,130,131,132,133,134,135,136,137,138,139,140,141,142,143,144,145,146,147,148]
def Dh(t:Tr bH): List Nat→Tr bH→Tr bH
 | [],a=>a
 | k::l,a=>Dh t l (match t.get k with
  | some d=>a.set k d
  | none=>a)
theorem uT(t:Tr bH): ∀(l:List Nat) (a:Tr bH) (j:Nat) (d:bH),(Dh t l a).get j=some d→t.get j=some d∨a.get j=some d
 | [],a,j,d,h=>.inr h
 | k::l,a,j,d,h=>by
  rcases uT t l _ j d h with h1|h1
  ·exact .inl h1
  ·clear h;split at h1
   ·rename_i e he;rw[Tr.dQ] at h1;by_cases hj:j=k
    ·rw[if_pos hj] at h1;rw[hj];exact .inl (he.trans h1)
    ·rw[if_neg hj] at h1;exact .inr h1
   ·exact .inr h1
theorem tyT_eq:Dh (qf Tryz.prog) tyKeys .nil=tyT:=by kernel_rfl
theorem tyT_ok(j:Nat)(d:bH)(h:tyT.get j=some d): (qf Tryz.prog).get j=some d:=by
 rw[←tyT_eq] at h;rcases uT _ _ _ j d h with h|h
 ·exact h
 ·cases h
noncomputable def ES (K:FuncId) : Env:={ P:=Tryz.prog,fns:=tab,cf:=tyT,uo:=(BL K).uo }
theorem ES_ok[bu]{K:FuncId}(h:dD (BL K)): dD (ES K):=
 ⟨fun t d hd=>h.ty t d (tyT_ok t d hd),h.fn,h.code,h.mixed,h.ext1,h.ext2,h.uo⟩
theorem bF{K f:FuncId}{v:AV}{vs:List AV}:(ES K).uo f (v::vs)=none:=by
 show (bif Nat.beq f K then _ else _)=_;cases Nat.beq f K<;>rfl
end Go.Proofs.YtafamggbkobcfaaGreat.Ae
